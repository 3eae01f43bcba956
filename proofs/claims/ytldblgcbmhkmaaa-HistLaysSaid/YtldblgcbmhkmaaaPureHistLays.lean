/- HistLays: the pure statement, out of the plain laws of lists of keys. -/
import Derived.Test.YtldblgcbmhkmaaaSaidHistLays
import Derived.Test.YtldblgcbmhkmaaaHist
namespace Go.Proofs.Ytldblgcbmhkmaaa.PM.GHistLays
open Go.RowKit Go.Proofs.YtldblgcbmhkmaaaW.PrintWords Go.Proofs.YtldblgcbmhkmaaaW.PrintLast Go.Proofs.YtldblgcbmhkmaaaW.PrintMore Go.Proofs.Ytldblgcbmhkmaaa.PM Go.Proofs.Ytldblgcbmhkmaaa.My
set_option linter.unusedVariables false
theorem no (l : List Hist.KV) (log : List Hist.EV) (rev : Int) : Ev (fun k => batonlaw04_HistLays.j0 k l log rev true) true := Ev.step (fun k => by apply batonlaw04_HistLays.j0.eq_2) (ev_if rfl (ev_b Hist.live (Ev.now _)))
theorem loop (l : List Hist.KV) (hl : l.length ≤ 40) (log : List Hist.EV) (hg : log.length ≤ 40) (d : Nat) : ∀ i : Nat, log.length = i + d → Ev (fun k => batonlaw04_HistLays.l0 k l log (i : Int)) true := by
  induction d with
  | zero =>
    intro i hd
    exact Ev.step (fun n => by apply batonlaw04_HistLays.l0.eq_2) (ev_ifn (by omega) (ev_b Hist.live (Ev.now _)))
  | succ d ih =>
    intro i hd
    have hlt : i < log.length := by omega
    refine Ev.step (fun n => by apply batonlaw04_HistLays.l0.eq_2) (ev_if (by omega) (ev_if (by omega) ?_))
    rw [Hist.rde hlt, Hist.nx (by omega)]
    have e := Hist.lay_len log[i].f2 l
    exact ev_b (Hist.lay_f (by omega) _) (ev_b (Hist.lay_ref (by omega) _) (ev_b (Hist.kvs_f rfl (by omega)) (ev_if rfl (ih (i + 1) (by omega)))))
theorem pure_holds : Pure := by
  intro l log rev _ _ _
  refine Ev.rounds (g := fun k => batonlaw04_HistLays.f k l log rev) ?_
  unfold batonlaw04_HistLays.f
  refine ev_b (Hist.few_f (by decide) l) ?_
  by_cases h1 : Hist.few 40 l = true
  · have hl := Hist.few_len h1
    refine ev_if h1 (ev_b (Hist.fewE_f (by decide) log) ?_)
    by_cases h2 : Hist.fewE 40 log = true
    · have hg := Hist.fewE_len h2
      have e := Hist.fold_len rev log l
      rw [h2]
      refine Ev.step (fun k => by apply batonlaw04_HistLays.j0.eq_2) (ev_ifn (by decide) ?_)
      refine ev_b (Hist.fold_f rev (by omega) (by omega)) (ev_b (Hist.fold_ref rev (by omega) (by omega)) (ev_b (Hist.kvs_f rfl (by omega)) (ev_if rfl ?_)))
      exact loop l (by omega) log (by omega) log.length 0 (by omega)
    · simp only [Bool.not_eq_true] at h2
      rw [h2]
      exact no l log rev
  · exact ev_ifn h1 (no l log rev)
end Go.Proofs.Ytldblgcbmhkmaaa.PM.GHistLays
