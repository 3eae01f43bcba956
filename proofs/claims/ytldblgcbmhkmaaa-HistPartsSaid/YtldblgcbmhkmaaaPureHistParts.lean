/- HistParts: the pure statement, out of the plain laws of lists of keys. -/
import Derived.Test.YtldblgcbmhkmaaaSaidHistParts
import Derived.Test.YtldblgcbmhkmaaaHist
namespace Go.Proofs.Ytldblgcbmhkmaaa.PM.GHistParts
open Go.RowKit Go.Proofs.YtldblgcbmhkmaaaW.PrintWords Go.Proofs.YtldblgcbmhkmaaaW.PrintLast Go.Proofs.YtldblgcbmhkmaaaW.PrintMore Go.Proofs.Ytldblgcbmhkmaaa.PM Go.Proofs.Ytldblgcbmhkmaaa.My
set_option linter.unusedVariables false
theorem no (l : List Hist.KV) (log : List Hist.EV) (a b : Int) : Ev (fun k => batonlaw04_HistParts.j0 k l log a b true) true := Ev.step (fun k => by apply batonlaw04_HistParts.j0.eq_2) (ev_if rfl (ev_b Hist.live (Ev.now _)))
theorem loop (l : List Hist.KV) (hl : l.length ≤ 40) (log : List Hist.EV) (hg : log.length ≤ 40) (rev : Int) (d : Nat) : ∀ (i : Nat), log.length = i + d → Ev (fun k => batonlaw04_HistParts.l0 k l log rev (Hist.fold rev l log) (Hist.low rev (log.take i)) (i : Int)) true := by
  induction d with
  | zero =>
    intro i hd
    have e := Hist.fold_len rev log l
    have e2 := Hist.low_len rev log
    rw [List.take_of_length_le (by omega)]
    refine Ev.step (fun n => by apply batonlaw04_HistParts.l0.eq_2) (ev_ifn (by omega) ?_)
    refine ev_b (Hist.fold_f rev (by omega) (by omega)) (ev_b (Hist.kvs_f (Hist.fold_low rev log l).symm (by omega)) (ev_if rfl ?_))
    exact ev_b (Hist.frm_f (by omega) _) (ev_b (Hist.kvs_f (Hist.frm_empty _) (by rw [Hist.frm_empty]; omega)) (ev_if rfl (ev_b Hist.live (Ev.now _))))
  | succ d ih =>
    intro i hd
    have hlt : i < log.length := by omega
    have e2 := Hist.low_len rev (log.take i)
    have hk := ih (i + 1) (by omega)
    rw [List.take_succ_eq_append_getElem hlt] at hk
    refine Ev.step (fun n => by apply batonlaw04_HistParts.l0.eq_2) (ev_if (by omega) (ev_if (by omega) ?_))
    rw [Hist.rde hlt, Hist.nx (by omega)]
    by_cases h : log[i].f0 ≤ rev
    · refine ev_if h (ev_if (by rw [List.length_take] at e2; omega) ?_)
      rw [Hist.low_yes _ h] at hk
      exact hk
    · refine ev_ifn h ?_
      rw [Hist.low_no _ h] at hk
      exact hk
theorem pure_holds : Pure := by
  intro l log x _ _ _
  generalize x.f0 = rev
  generalize x.f1 = cut
  refine Ev.rounds (g := fun k => batonlaw04_HistParts.f k l log rev cut) ?_
  unfold batonlaw04_HistParts.f
  refine ev_b (Hist.few_f (by decide) l) ?_
  by_cases h1 : Hist.few 40 l = true
  · have hl := Hist.few_len h1
    refine ev_if h1 (ev_b (Hist.fewE_f (by decide) log) ?_)
    by_cases h2 : Hist.fewE 40 log = true
    · have hg := Hist.fewE_len h2
      refine ev_if h2 ?_
      by_cases h3 : cut < 0
      · exact ev_if h3 (no l log rev cut)
      refine ev_ifn h3 ?_
      by_cases h4 : cut > (log.length : Int)
      · rw [decide_eq_true h4]
        exact no l log rev cut
      rw [decide_eq_false h4]
      have e := Hist.fold_len rev log l
      have e1 := Hist.fold_len rev (log.take cut.toNat) l
      have e2 : Hist.fold rev l log = Hist.fold rev (Hist.fold rev l (log.take cut.toNat)) (log.drop cut.toNat) := by
        unfold Hist.fold
        rw [← List.foldl_append, List.take_append_drop]
      rw [List.length_take] at e1
      refine Ev.step (fun k => by apply batonlaw04_HistParts.j0.eq_2) (ev_ifn (by decide) ?_)
      refine ev_b (Hist.fold_f rev (by omega) (by omega)) (ev_if (by omega) (ev_if (by omega) ?_))
      refine ev_b (Hist.fold_f rev (by rw [List.length_take]; omega) (by omega)) (ev_b (Hist.fold_f rev (by rw [List.length_drop]; omega) (by omega)) (ev_b (Hist.kvs_f e2 (by omega)) (ev_if rfl ?_)))
      exact loop l (by omega) log (by omega) rev log.length 0 (by omega)
    · exact ev_ifn h2 (no l log rev cut)
  · exact ev_ifn h1 (no l log rev cut)
end Go.Proofs.Ytldblgcbmhkmaaa.PM.GHistParts
