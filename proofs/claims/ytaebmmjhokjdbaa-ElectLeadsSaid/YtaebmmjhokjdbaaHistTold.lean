/- Lists of keys in plain Lean: what the reference finds, and gathers of a prefix. -/
import Derived.Test.YtaebmmjhokjdbaaPM22
import Derived.Test.YtaebmmjhokjdbaaHistRef
namespace Go.Proofs.Ytaebmmjhokjdbaa.PM
open Go.RowKit Go.Proofs.YtaebmmjhokjdbaaW.PrintWords Go.Proofs.YtaebmmjhokjdbaaW.PrintLast Go.Proofs.YtaebmmjhokjdbaaW.PrintMore Go.Proofs.Ytaebmmjhokjdbaa.My
set_option linter.unusedVariables false
namespace Hist
theorem frmr_l (p : ByteArray) (l : List KV) (hl : l.length ≤ 1000) (d : Nat) : ∀ (i : Nat) (q : List KV), l.length = i + d → q.length ≤ i → Ev (fun n => batonref04_From.l0 n l p q (i : Int)) (q ++ frm p (l.drop i)) := by
  induction d with
  | zero =>
    intro i q hd hq
    refine Ev.step (fun n => by apply batonref04_From.l0.eq_2) (ev_ifn (by omega) (ev_now ?_))
    rw [List.drop_of_length_le (by omega)]
    simp [frm]
  | succ d ih =>
    intro i q hd hq
    have hlt : i < l.length := by omega
    rw [List.drop_eq_getElem_cons hlt]
    refine Ev.step (fun n => by apply batonref04_From.l0.eq_2) (ev_if (by omega) (ev_if (by omega) ?_))
    rw [rd hlt, nx (by omega)]
    have hc : ((l[i].f0.extract 0 ((p.size : Int)).toNat).toList = p.toList) ↔ l[i].f0.data.toList.take p.size = p.data.toList := by
      rw [tl, tl, Lib.extract_data, Int.toNat_natCast]
      simp
    have hno : ¬ pfx p l[i].f0 = true → Ev (fun n => batonref04_From.l0 n l p q ((i + 1 : Nat) : Int)) (q ++ frm p (l[i] :: l.drop (i + 1))) := by
      intro h
      have := ih (i + 1) q (by omega) (by omega)
      rw [frm_not h]
      exact this
    by_cases h1 : (l[i].f0.size : Int) ≥ (p.size : Int)
    · refine ev_if h1 (ev_if (by omega) (ev_if (by omega) ?_))
      by_cases h2 : l[i].f0.data.toList.take p.size = p.data.toList
      · refine ev_if (hc.2 h2) (ev_if (by omega) ?_)
        have h : pfx p l[i].f0 = true := by unfold pfx; rw [decide_eq_true (by omega), h2]; simp
        have := ih (i + 1) (q ++ [l[i]]) (by omega) (by simp; omega)
        rw [List.append_assoc] at this
        rw [frm_yes h]
        exact this
      · refine ev_ifn (fun c => h2 (hc.1 c)) (hno ?_)
        unfold pfx
        simp [h2]
    · refine ev_ifn h1 (hno ?_)
      unfold pfx
      rw [decide_eq_false (by omega)]
      simp
theorem frm_ref {l : List KV} (hl : l.length ≤ 1000) (p : ByteArray) : Ev (fun n => batonref04_From.f n l p) (frm p l) := by
  have := frmr_l p l hl l.length 0 [] (by omega) (by simp)
  unfold batonref04_From.f
  simpa using this
end Hist
end Go.Proofs.Ytaebmmjhokjdbaa.PM
