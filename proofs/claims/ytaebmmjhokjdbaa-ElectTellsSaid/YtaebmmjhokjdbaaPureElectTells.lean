/- ElectTells: the pure statement, out of the plain laws of elections. -/
import Derived.Test.YtaebmmjhokjdbaaSaidElectTells
import Derived.Test.YtaebmmjhokjdbaaElectRef
namespace Go.Proofs.Ytaebmmjhokjdbaa.PM.GElectTells
open Go.RowKit Go.Proofs.YtaebmmjhokjdbaaW.PrintWords Go.Proofs.YtaebmmjhokjdbaaW.PrintLast Go.Proofs.YtaebmmjhokjdbaaW.PrintMore Go.Proofs.Ytaebmmjhokjdbaa.PM Go.Proofs.Ytaebmmjhokjdbaa.My ElectF
set_option linter.unusedVariables false
theorem no (l : List ElectF.KV) (s : ByteArray) : Ev (fun n => batonlaw17_ElectTells.j0 n l s true) true := Ev.step (fun n => by apply batonlaw17_ElectTells.j0.eq_2) (ev_if rfl (ev_b live (Ev.now _)))
theorem pure_holds : Pure := by
  intro l s _ _
  refine Ev.rounds (g := fun n => batonlaw17_ElectTells.f n l s) ?_
  unfold batonlaw17_ElectTells.f
  refine ev_b (Hist.few_f (by decide) l) ?_
  by_cases h1 : Hist.few 40 l = true
  · have hl := Hist.few_len h1
    refine ev_if h1 ?_
    by_cases h2 : (s.size : Int) > 60
    · rw [decide_eq_true h2]
      exact no l s
    rw [decide_eq_false h2]
    have e := trm_len l
    refine Ev.step (fun n => by apply batonlaw17_ElectTells.j0.eq_2) ?_
    refine ev_ifn (by decide) ?_
    refine ev_c (head_f (by omega)) (ev_b (head_r (by omega)) (ev_b (reign_f (by omega) (by omega)) (ev_b (reign_r (by omega) (by omega)) (ev_if (by simp) (ev_if (by simp) ?_)))))
    exact ev_b (terms_f (by omega)) (ev_b (terms_r (by omega)) (ev_b (ints_f (by omega)) (ev_if rfl (ev_if rfl (ev_if rfl (ev_if (by simp) (ev_b live (Ev.now _))))))))
  · exact ev_ifn h1 (no l s)
end Go.Proofs.Ytaebmmjhokjdbaa.PM.GElectTells
