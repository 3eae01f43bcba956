-- made by a program of this session (wip/tools/myprint.py over the kit's print) out of the translation; Lean checks it
import Derived.Test.YtjhfidafeeiogaaPM0
import Derived.Test.YtjhfidafeeiogaaPM10
import Derived.Test.YtjhfidafeeiogaaPM12
namespace Go.Proofs.Ytjhfidafeeiogaa.PM
open Go.RowKit Go.Proofs.YtjhfidafeeiogaaW.PrintWords Go.Proofs.YtjhfidafeeiogaaW.PrintLast Go.Proofs.YtjhfidafeeiogaaW.PrintMore
attribute [local go_sem] max2_int min2_int max_two min_two max_three min_three max_four min_four   -- for this text's walks alone
attribute [local go_sem high] Go.Proofs.Ytjhfidafeeiogaa.My.str_leq Go.Proofs.Ytjhfidafeeiogaa.My.str_gtr Go.Proofs.Ytjhfidafeeiogaa.My.str_geq
set_option linter.unusedVariables false
set_option linter.unusedSimpArgs false

/-! ### ticket_Ahead: function 16 -/
def ticket_Ahead.f (l0 : List (S39)) (a1 : ByteArray) : Option ((List (S39))) := (ticket_Order.f l0).bind fun t156 => ((ticket_Place.f l0 a1).bind fun t159 => (if 0 ≤ (mx 0 t159) then (if (mx 0 t159) ≤ (t156.length : Int) then (some (t156.take ((mx 0 t159) : Int).toNat)) else (none)) else (none)))
set_option maxHeartbeats 8000000 in
set_option maxRecDepth 100000 in
theorem ticket_Ahead.calls (A0 : Option Addr) (c0 : Nat) (l0 : List (S39)) (a1 : ByteArray) (r : List (S39)) (w : World) (hr0 : Kd.C k39 w A0 l0.length l0) (hc0 : l0.length ≤ c0) (h : ticket_Ahead.f l0 a1 = some r) :
    Calls Try.prog 16 #[.slice A0 l0.length c0, .string a1] w fun e w' => ∃ v0_ : Value, e = .returned (v0_) ∧ Kd.R k39 39 w' w.heap.size (fun _ => True) v0_ r ∧ Below w.heap.size w w' := by
  have HR0 := Aside0.mk hr0; have HC0 := Aside0.mk hc0; clear hr0 hc0; have HB := Aside0.mk (Below.refl w.heap.size w); have H : ((ticket_Order.f l0).bind fun t156 => ((ticket_Place.f l0 a1).bind fun t159 => (if 0 ≤ (mx 0 t159) then (if (mx 0 t159) ≤ (t156.length : Int) then (some (t156.take ((mx 0 t159) : Int).toNat)) else (none)) else (none)))) = some r := h; clear h; replace H := Option.bind_eq_some_iff.mp H; obtain ⟨t156, A30, H⟩ := H; replace H : ((ticket_Place.f l0 a1).bind fun t159 => (if 0 ≤ (mx 0 t159) then (if (mx 0 t159) ≤ (t156.length : Int) then (some (t156.take ((mx 0 t159) : Int).toNat)) else (none)) else (none))) = some r := H; have A3 := Aside0.mk A30; clear A30; replace H := Option.bind_eq_some_iff.mp H; obtain ⟨t159, A40, H⟩ := H; replace H : (if 0 ≤ (mx 0 t159) then (if (mx 0 t159) ≤ (t156.length : Int) then (some (t156.take ((mx 0 t159) : Int).toNat)) else (none)) else (none)) = some r := H; have A4 := Aside0.mk A40; clear A40; obtain ⟨ji5, hji5⟩ : ∃ j_ : Int, (mx 0 t159) = j_ := ⟨_, rfl⟩; (replace H : (if 0 ≤ (ji5) then (if (ji5) ≤ (t156.length : Int) then (some (t156.take ((ji5) : Int).toNat)) else (none)) else (none)) = some r := by first | (rw [hji5] at H; exact H) | (simp only [hji5] at H ⊢; exact H)); (try rw [hji5] at A3); (try rw [hji5] at A4); (try (have hji5l : 0 ≤ ji5 := by (rw [← hji5]; unfold mx; (repeat' split) <;> omega))); (try (have hji5m : 0 ≤ ji5 := by omega)); have hji5_ : (if 0 < t159 then t159 else 0) = ji5 := hji5
  by_cases c6 : 0 ≤ (ji5)
  · rw [if_pos c6] at H
    have c6b0 := eq_true c6; have c6b1 : decide (0 ≤ (ji5)) = true := decide_eq_true c6; clear c6
    by_cases c7 : (ji5) ≤ (t156.length : Int)
    · rw [if_pos c7] at H
      have c7b0 := eq_true c7; have c7b1 : decide ((ji5) ≤ (t156.length : Int)) = true := decide_eq_true c7; clear c7; obtain ⟨y160, hy160⟩ : ∃ y_ : List (S39), y_ = (t156.take ((ji5) : Int).toNat) := ⟨_, rfl⟩; (replace H : (some y160) = some r := by first | (rw [hy160]; with_reducible exact H) | (have H2_ := (Option.bind_some _ _).symm.trans H; rw [hy160]; with_reducible exact H2_) | (have H2_ := (Option.bind_some _ _).symm.trans H; with_reducible exact H2_) | with_reducible exact H | (rw [hy160]; exact H) | exact H); have Ny160 := Aside0.mk hy160; clear hy160; obtain rfl := Option.some.inj H
      go_enter Try.func16, Try.ntmps16
      go_wp2_with (first | ((with_reducible refine gate_callee (f := 12) rfl ?_); refine goesL_ (some 6) rfl rfl Try.func12 (by kernel_rfl) rfl #[.slice A0 l0.length c0] rfl My.ar ?_; (with_reducible refine (ticket_Order.calls _ _ l0 t156 _ ?side1 ?side2 A3.out).mono ?_); (case side1 => exact My.Ca HR0.out); (case side2 => exact HC0.out); rintro e w8 ⟨v157, rfl, ho0, hb⟩; refine ⟨_, rfl, ?_⟩; have HO158 := Aside0.mk (Kd.R_lower ho0 (below_size My.bB)); replace HB := Aside0.mk (below_step My.bB hb); (try clear hb); (try clear hb2); (try clear hk); (try clear hi); (try clear ho0)) | ((with_reducible refine gate_callee (f := 14) rfl ?_); refine goesL_ (some 9) rfl rfl Try.func14 (by kernel_rfl) rfl #[.slice A0 l0.length c0, .string a1] rfl My.ar ?_; (with_reducible refine (ticket_Place.calls _ _ l0 a1 t159 _ ?side1 ?side2 A4.out).mono ?_); (case side1 => exact My.Ca (Kd.C_below HR0.out HB.out)); (case side2 => exact HC0.out); rintro e w9 ⟨rfl, hb⟩; refine ⟨_, rfl, ?_⟩; replace HO158 := Aside0.mk (Kd.R_below (My.Ra HO158.out) hb); replace HB := Aside0.mk (below_step My.bB hb); (try clear hb); (try clear hb2); (try clear hk); (try clear hi); obtain ⟨Ao10, co10, eo10⟩ := Kd.R_slice HO158.out; subst eo10; have q11 : ((ji5) : Int) ≤ ((t156.length : Int) : Int) := of_decide_eq_true My.as; obtain ⟨i011, hi011, _, hsz11, _⟩ := info_parts info39; have hcut11 := cut_to (P := Try.prog) 22 39 .i64 Try.underlying22 hi011 Ao10 t156.length co10 (ji5) (of_decide_eq_true My.as) q11 (Kd.R_reads' HO158.out).2.1; have hr11 := Kd.R_take (m := ((ji5) : Int).toNat) HO158.out (by omega); have hy11 : y160.length = ((ji5) : Int).toNat := (by rw [Ny160.out, List.length_take]; omega); rw [← Ny160.out] at hr11; rw [← hy11] at hr11 hcut11; clear hy11 hi011 hsz11 HO158; have HO162 := Aside0.mk hr11; clear hr11; replace q11 := eq_true q11))
      go_ret
      exact ⟨_, by first | rfl | (simp [errW_none, errW_some] <;> rfl) | (simp only [← hji5]; first | rfl | (simp [errW_none, errW_some] <;> rfl)) | (simp [*, errW_none, errW_some] <;> rfl), My.Ra HO162.out, My.bB⟩
    · exact My.no c7 H
  · exact My.no c6 H

-- NOT PRINTED: function 49 (hist_is_1)

end Go.Proofs.Ytjhfidafeeiogaa.PM
