/- Elections in plain Lean: what the references' printed functions come to. -/
import Derived.Test.YtaebmmjhokjdbaaPM21
import Derived.Test.YtaebmmjhokjdbaaPM23
import Derived.Test.YtaebmmjhokjdbaaPM22
import Derived.Test.YtaebmmjhokjdbaaElect
import Derived.Test.YtaebmmjhokjdbaaTicketRef
import Derived.Test.YtaebmmjhokjdbaaHistTold
namespace Go.Proofs.Ytaebmmjhokjdbaa.PM
open Go.RowKit Go.Proofs.YtaebmmjhokjdbaaW.PrintWords Go.Proofs.YtaebmmjhokjdbaaW.PrintLast Go.Proofs.YtaebmmjhokjdbaaW.PrintMore Go.Proofs.Ytaebmmjhokjdbaa.My
set_option linter.unusedVariables false
namespace ElectF
open Hist (out nx rd rde)
theorem head_r {l : List KV} (h : l.length ≤ 1000) : Ev (fun n => batonref17_Head.f n l) (out (hdo l)) := by
  unfold batonref17_Head.f
  refine ev_b (b := ord l) (TicketF.order_r h) ?_
  unfold hdo
  cases e : ord l with
  | nil => exact ev_if rfl (ev_now rfl)
  | cons x q => exact ev_ifn (by (try simp only [List.length_cons]); omega) (ev_if (by (try simp only [List.length_cons]); omega) (ev_now rfl))
theorem reign_r {l : List KV} (hl : l.length ≤ 1000) {name : ByteArray} (hn : name.size ≤ 100) : Ev (fun n => batonref17_Reign.f n l name) (reign l name) := by
  unfold batonref17_Reign.f reign
  refine ev_b (Key.prf_ref 5 hn) ?_
  by_cases c : (Key.prf 5 name).2 = true
  · rw [if_pos c]
    have := Hist.frm_len (Key.prf 5 name).1 l
    exact ev_if c (ev_b (Hist.frm_ref hl _) (ev_b (head_r (by omega)) (ev_now rfl)))
  · rw [if_neg c]
    exact ev_ifn c (ev_now rfl)
theorem termsr_l {l : List KV} (hl : l.length ≤ 1000) (d : Nat) : ∀ (i : Nat) (q : List Int) (hi : i < l.length), l.length = i + 1 + d → q.length ≤ i + 1 → Ev (fun n => batonref17_Terms.l0 n l q ((i + 1 : Nat) : Int)) (q ++ (cptF (l[i]'hi).f2 (l.drop (i + 1))).map (·.f2)) := by
  induction d with
  | zero =>
    intro i q hi hd hq
    refine Ev.step (fun n => by apply batonref17_Terms.l0.eq_2) ?_
    refine ev_ifn (by omega) (ev_now ?_)
    rw [List.drop_of_length_le (by omega)]
    simp [cptF]
  | succ d ih =>
    intro i q hi hd hq
    have hlt : i + 1 < l.length := by omega
    refine Ev.step (fun n => by apply batonref17_Terms.l0.eq_2) ?_
    refine ev_if (by omega) (ev_ifn (by omega) ?_)
    rw [pv (by omega)]
    refine ev_if (by omega) (ev_if (by omega) (ev_if (by omega) ?_))
    rw [rd hlt, rd hi, List.drop_eq_getElem_cons hlt, cptF, nx (by omega)]
    by_cases c : l[i].f2 = l[i + 1].f2
    · rw [if_pos c.symm]
      refine ev_if c ?_
      rw [c]
      exact ih (i + 1) q hlt (by omega) (by omega)
    · rw [if_neg (fun w => c w.symm)]
      refine ev_ifn c (ev_if (by omega) ?_)
      have hk := ih (i + 1) (q ++ [l[i + 1].f2]) hlt (by omega) (by rw [List.length_append]; simp only [List.length_singleton]; omega)
      rw [List.append_assoc] at hk
      exact hk
theorem terms_r {l : List KV} (hl : l.length ≤ 1000) : Ev (fun n => batonref17_Terms.f n l) (trm l) := by
  unfold batonref17_Terms.f
  cases l with
  | nil => exact Ev.step (fun n => by apply batonref17_Terms.l0.eq_2) (ev_ifn (by simp) (ev_now rfl))
  | cons x l =>
    refine Ev.step (fun n => by apply batonref17_Terms.l0.eq_2) ?_
    refine ev_if (by (try simp only [List.length_cons]); omega) (ev_if rfl (ev_if (by omega) (ev_if (by simp) ?_)))
    have hk := termsr_l (l := x :: l) hl l.length 0 [x.f2] (by simp) (by (try simp only [List.length_cons]); omega) (by simp)
    have e0 : Hist.rd (l := x :: l) (i := 0) (by simp) = Hist.rd (l := x :: l) (i := 0) (by simp) := rfl
    rw [show ((0 : Int)) = ((0 : Nat) : Int) from rfl, rd (l := x :: l) (i := 0) (by simp), nx (by omega)]
    exact hk
end ElectF
end Go.Proofs.Ytaebmmjhokjdbaa.PM
