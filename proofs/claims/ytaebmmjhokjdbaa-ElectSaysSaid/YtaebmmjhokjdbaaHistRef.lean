/- Lists of keys in plain Lean: what the reference takes, lays and folds. -/
import Derived.Test.YtaebmmjhokjdbaaPM26
import Derived.Test.YtaebmmjhokjdbaaHist
namespace Go.Proofs.Ytaebmmjhokjdbaa.PM
open Go.RowKit Go.Proofs.YtaebmmjhokjdbaaW.PrintWords Go.Proofs.YtaebmmjhokjdbaaW.PrintLast Go.Proofs.YtaebmmjhokjdbaaW.PrintMore Go.Proofs.Ytaebmmjhokjdbaa.My
set_option linter.unusedVariables false
namespace Hist
theorem layr_l (x : KV) (l : List KV) (hl : l.length ≤ 1000) (d : Nat) : ∀ (i : Nat), l.length = i + d → Ev (fun n => batonref04_Lay.l0 n l (i : Int) x.f0 x.f1 x.f2 x.f3 x.f4 x.f5) (l.take i ++ lay x (l.drop i)) := by
  induction d with
  | zero =>
    intro i hd
    refine Ev.step (fun n => by apply batonref04_Lay.l0.eq_2) (ev_ifn (by omega) (ev_c rfl (ev_if (by omega) (ev_if (by omega) (ev_c rfl (ev_if (by simp; omega) (ev_c rfl (ev_if (by simp; omega) (ev_c rfl (ev_c rfl (ev_if (by simp; omega) (ev_now ?_))))))))))))
    rw [Int.toNat_natCast, List.drop_of_length_le (by omega)]
    simp [lay]
  | succ d ih =>
    intro i hd
    have hlt : i < l.length := by omega
    have ht : l.take (i + 1) = l.take i ++ [l[i]] := List.take_succ_eq_append_getElem hlt
    have hk := ih (i + 1) (by omega)
    rw [ht, List.append_assoc] at hk
    rw [List.drop_eq_getElem_cons hlt]
    refine Ev.step (fun n => by apply batonref04_Lay.l0.eq_2) (ev_if (by omega) (ev_if (by omega) ?_))
    rw [rd hlt, nx (by omega)]
    unfold lay
    by_cases h : lt l[i].f0 x.f0 = true
    · refine ev_if h ?_
      rw [if_pos h]
      exact hk
    · refine ev_ifn h (ev_c rfl (ev_if (by omega) (ev_c rfl (ev_if (by simp; omega) (ev_c rfl (ev_if (by simp; omega) (ev_c rfl ?_)))))))
      rw [if_neg h]
      by_cases h2 : l[i].f0 = x.f0
      · refine ev_if (by rw [h2]) (ev_if (by omega) (ev_if (by omega) (ev_c rfl (ev_if (by simp; omega) (ev_now ?_)))))
        rw [if_pos h2, Int.toNat_natCast, Int.toNat_natCast]
        simp
      · refine ev_ifn (fun c => h2 (tli.1 c)) (ev_c rfl (ev_if (by simp; omega) (ev_now ?_)))
        rw [if_neg h2, Int.toNat_natCast, List.drop_eq_getElem_cons hlt]
        simp
theorem lay_ref {l : List KV} (hl : l.length ≤ 1000) (x : KV) : Ev (fun n => batonref04_Lay.f n l x.f0 x.f1 x.f2 x.f3 x.f4 x.f5) (lay x l) := by
  have := layr_l x l hl l.length 0 (by omega)
  unfold batonref04_Lay.f
  simpa using this
end Hist
end Go.Proofs.Ytaebmmjhokjdbaa.PM
