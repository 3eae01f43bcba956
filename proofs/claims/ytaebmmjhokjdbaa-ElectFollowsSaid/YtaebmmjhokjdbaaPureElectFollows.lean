/- ElectFollows: the pure statement, out of the plain laws of elections. -/
import Derived.Test.YtaebmmjhokjdbaaSaidElectFollows
import Derived.Test.YtaebmmjhokjdbaaElectFol
namespace Go.Proofs.Ytaebmmjhokjdbaa.PM.GElectFollows
open Go.RowKit Go.Proofs.YtaebmmjhokjdbaaW.PrintWords Go.Proofs.YtaebmmjhokjdbaaW.PrintLast Go.Proofs.YtaebmmjhokjdbaaW.PrintMore Go.Proofs.Ytaebmmjhokjdbaa.PM Go.Proofs.Ytaebmmjhokjdbaa.My ElectF
set_option linter.unusedVariables false
theorem no (l : List ElectF.KV) (es : List ElectF.EV) : Ev (fun n => batonlaw17_ElectFollows.j0 n l es true) true := Ev.step (fun n => by apply batonlaw17_ElectFollows.j0.eq_2) (ev_if rfl (ev_b live (Ev.now _)))
theorem pure_holds : Pure := by
  intro l es _ _
  refine Ev.rounds (g := fun n => batonlaw17_ElectFollows.f n l es) ?_
  unfold batonlaw17_ElectFollows.f
  refine ev_b (Hist.few_f (by decide) l) ?_
  by_cases h1 : Hist.few 40 l = true
  · have hl := Hist.few_len h1
    refine ev_if h1 (ev_b (Hist.fewE_f (by decide) es) ?_)
    by_cases h2 : Hist.fewE 40 es = true
    · have he := Hist.fewE_len h2
      rw [h2]
      have hv := view_len es l
      have h3 := fol_view es.length es l (Nat.le_refl _)
      have h4 := fol_len es.length es l (Nat.le_refl _)
      refine Ev.step (fun n => by apply batonlaw17_ElectFollows.j0.eq_2) ?_
      refine ev_ifn (by decide) ?_
      refine ev_b (follow_f (by omega) (by omega)) (ev_b (follow_r (by omega) (by omega)) ?_)
      exact ev_b (Hist.kvs_f rfl (by rw [h3]; omega)) (ev_if rfl (ev_b (Hist.kvs_f rfl (by omega)) (ev_if rfl (ev_b live (Ev.now _)))))
    · rw [Bool.not_eq_true] at h2
      rw [h2]
      exact no l es
  · exact ev_ifn h1 (no l es)
end Go.Proofs.Ytaebmmjhokjdbaa.PM.GElectFollows
