/- HistTells: the pure statement, out of the plain laws of lists of keys. -/
import Derived.Test.YtldblgcbmhkmaaaSaidHistTells
import Derived.Test.YtldblgcbmhkmaaaHistTold
namespace Go.Proofs.Ytldblgcbmhkmaaa.PM.GHistTells
open Go.RowKit Go.Proofs.YtldblgcbmhkmaaaW.PrintWords Go.Proofs.YtldblgcbmhkmaaaW.PrintLast Go.Proofs.YtldblgcbmhkmaaaW.PrintMore Go.Proofs.Ytldblgcbmhkmaaa.PM Go.Proofs.Ytldblgcbmhkmaaa.My
set_option linter.unusedVariables false
theorem no (l : List Hist.KV) (k : ByteArray) : Ev (fun n => batonlaw04_HistTells.j0 n l k true) true := Ev.step (fun n => by apply batonlaw04_HistTells.j0.eq_2) (ev_if rfl (ev_b Hist.live (Ev.now _)))
theorem pure_holds : Pure := by
  intro l k _ _
  refine Ev.rounds (g := fun n => batonlaw04_HistTells.f n l k) ?_
  unfold batonlaw04_HistTells.f
  refine ev_b (Hist.few_f (by decide) l) ?_
  by_cases h1 : Hist.few 40 l = true
  · have hl := Hist.few_len h1
    refine ev_if h1 ?_
    by_cases h2 : (k.size : Int) > 60
    · rw [decide_eq_true h2]
      exact no l k
    · rw [decide_eq_false h2]
      have e1 := Hist.take_len k l
      have e2 := Hist.frm_len k l
      refine Ev.step (fun n => by apply batonlaw04_HistTells.j0.eq_2) (ev_ifn (by decide) ?_)
      refine ev_c (Hist.find_f l k) (ev_b (Hist.find_ref (by omega) k) (ev_b (Hist.may_f (by omega)) (ev_b (Hist.may_ref (by omega)) ?_)))
      refine ev_if (by simp) (ev_if (by simp) (ev_if (by simp) ?_))
      refine ev_c (Hist.take_f (by omega) k) (ev_b (Hist.take_ref (by omega) k) (ev_b (Hist.kvs_f rfl (by omega)) (ev_if rfl ?_)))
      exact ev_b (Hist.frm_f (by omega) k) (ev_b (Hist.frm_ref (by omega) k) (ev_b (Hist.kvs_f rfl (by omega)) (ev_if rfl (ev_b Hist.live (Ev.now _)))))
  · exact ev_ifn h1 (no l k)
end Go.Proofs.Ytldblgcbmhkmaaa.PM.GHistTells
