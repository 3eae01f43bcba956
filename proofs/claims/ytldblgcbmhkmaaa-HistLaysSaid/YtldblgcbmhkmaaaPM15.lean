-- made by a program of this session (wip/tools/myprint.py over the kit's print) out of the translation; Lean checks it
import Derived.Test.YtldblgcbmhkmaaaPM0
import Derived.Test.YtldblgcbmhkmaaaPM2
import Derived.Test.YtldblgcbmhkmaaaPM11
import Derived.Test.YtldblgcbmhkmaaaPM12
import Derived.Test.YtldblgcbmhkmaaaPM13
import Derived.Test.YtldblgcbmhkmaaaPM14
namespace Go.Proofs.Ytldblgcbmhkmaaa.PM
open Go.RowKit Go.Proofs.YtldblgcbmhkmaaaW.PrintWords Go.Proofs.YtldblgcbmhkmaaaW.PrintLast Go.Proofs.YtldblgcbmhkmaaaW.PrintMore
attribute [local go_sem] max2_int min2_int max_two min_two max_three min_three max_four min_four   -- for this text's walks alone
attribute [local go_sem high] Go.Proofs.Ytldblgcbmhkmaaa.My.str_leq Go.Proofs.Ytldblgcbmhkmaaa.My.str_gtr
set_option linter.unusedVariables false
set_option linter.unusedSimpArgs false

/-! ### batonlaw04_HistLays: function 4 -/
mutual
def batonlaw04_HistLays.j0 : Nat → List (S26) → List (S38) → Int → Bool → Option (Bool)
  | 0, _, _, _, _ => none
  | k + 1, x0, x1, x2, x15 => if x15 = true then ((batonlaw04_live.f k).bind fun t362 => (some t362)) else ((hist_Fold.f k x0 x1 x2).bind fun t363 => ((batonref04_Fold.f k x0 x1 x2).bind fun t366 => ((batonref03_KVs.f k t363 t366).bind fun t369 => (if t369 = true then (batonlaw04_HistLays.l0 k x0 x1 0) else (none)))))
def batonlaw04_HistLays.l0 : Nat → List (S26) → List (S38) → Int → Option (Bool)
  | 0, _, _, _ => none
  | k + 1, x0, x1, x7 => if x7 < (x1.length : Int) then (if 0 ≤ x7 then ((hist_Lay.f k x0 ((rd_T38 x1 x7).f2.f0) ((rd_T38 x1 x7).f2.f1) ((rd_T38 x1 x7).f2.f2) ((rd_T38 x1 x7).f2.f3) ((rd_T38 x1 x7).f2.f4) ((rd_T38 x1 x7).f2.f5)).bind fun t372 => ((batonref04_Lay.f k x0 ((rd_T38 x1 x7).f2.f0) ((rd_T38 x1 x7).f2.f1) ((rd_T38 x1 x7).f2.f2) ((rd_T38 x1 x7).f2.f3) ((rd_T38 x1 x7).f2.f4) ((rd_T38 x1 x7).f2.f5)).bind fun t376 => ((batonref03_KVs.f k t372 t376).bind fun t379 => (if t379 = true then (batonlaw04_HistLays.l0 k x0 x1 (wrap64 (x7 + 1))) else (none))))) else (none)) else ((batonlaw04_live.f k).bind fun t370 => (some t370))
end
def batonlaw04_HistLays.f (k : Nat) (l0 : List (S26)) (l1 : List (S38)) (a2 : Int) : Option (Bool) := (batonref03_Few.f k l0 40).bind fun t360 => (if t360 = true then ((batonref03_FewEvents.f k l1 40).bind fun t361 => (batonlaw04_HistLays.j0 k l0 l1 a2 (!t361))) else (batonlaw04_HistLays.j0 k l0 l1 a2 true))
theorem batonlaw04_HistLays.mono_l : ∀ k, (∀ y0 y1 y2 y3, LeO (batonlaw04_HistLays.j0 k y0 y1 y2 y3) (batonlaw04_HistLays.j0 (k + 1) y0 y1 y2 y3)) ∧ (∀ y0 y1 y2, LeO (batonlaw04_HistLays.l0 k y0 y1 y2) (batonlaw04_HistLays.l0 (k + 1) y0 y1 y2))
  | 0 => ⟨fun _ _ _ _ r h => by simp [batonlaw04_HistLays.j0] at h, fun _ _ _ r h => by simp [batonlaw04_HistLays.l0] at h⟩
  | k + 1 => by
    obtain ⟨ih0, ih1⟩ := batonlaw04_HistLays.mono_l k
    refine ⟨?_, ?_⟩
    · intro y0 y1 y2 y3
      unfold batonlaw04_HistLays.j0
      repeat' first
      | (with_reducible exact ih0 _ _ _ _)
      | (with_reducible exact ih1 _ _ _)
      | (with_reducible exact batonlaw04_live.mono _)
      | (with_reducible exact batonref03_Few.mono _ _ _)
      | (with_reducible exact batonref03_FewEvents.mono _ _ _)
      | (with_reducible exact batonref03_KVs.mono _ _ _)
      | (with_reducible exact batonref04_Fold.mono _ _ _ _)
      | (with_reducible exact batonref04_Lay.mono _ _ _ _ _ _ _ _)
      | (with_reducible exact hist_Fold.mono _ _ _ _)
      | (with_reducible exact hist_Lay.mono _ _ _ _ _ _ _ _)
      | (with_reducible exact LeO.refl _)
      | (with_reducible exact LeO.none _)
      | (with_reducible refine LeO.ite ?_ ?_)
      | (with_reducible refine LeO.bind ?_ (fun _ => ?_))
      | exact ih0 _ _ _ _
      | exact ih1 _ _ _
      | exact batonlaw04_live.mono _
      | exact batonref03_Few.mono _ _ _
      | exact batonref03_FewEvents.mono _ _ _
      | exact batonref03_KVs.mono _ _ _
      | exact batonref04_Fold.mono _ _ _ _
      | exact batonref04_Lay.mono _ _ _ _ _ _ _ _
      | exact hist_Fold.mono _ _ _ _
      | exact hist_Lay.mono _ _ _ _ _ _ _ _
      | exact LeO.none _
      | refine LeO.ite ?_ ?_
      | refine LeO.bind ?_ (fun _ => ?_)
    · intro y0 y1 y2
      unfold batonlaw04_HistLays.l0
      repeat' first
      | (with_reducible exact ih0 _ _ _ _)
      | (with_reducible exact ih1 _ _ _)
      | (with_reducible exact batonlaw04_live.mono _)
      | (with_reducible exact batonref03_Few.mono _ _ _)
      | (with_reducible exact batonref03_FewEvents.mono _ _ _)
      | (with_reducible exact batonref03_KVs.mono _ _ _)
      | (with_reducible exact batonref04_Fold.mono _ _ _ _)
      | (with_reducible exact batonref04_Lay.mono _ _ _ _ _ _ _ _)
      | (with_reducible exact hist_Fold.mono _ _ _ _)
      | (with_reducible exact hist_Lay.mono _ _ _ _ _ _ _ _)
      | (with_reducible exact LeO.refl _)
      | (with_reducible exact LeO.none _)
      | (with_reducible refine LeO.ite ?_ ?_)
      | (with_reducible refine LeO.bind ?_ (fun _ => ?_))
      | exact ih0 _ _ _ _
      | exact ih1 _ _ _
      | exact batonlaw04_live.mono _
      | exact batonref03_Few.mono _ _ _
      | exact batonref03_FewEvents.mono _ _ _
      | exact batonref03_KVs.mono _ _ _
      | exact batonref04_Fold.mono _ _ _ _
      | exact batonref04_Lay.mono _ _ _ _ _ _ _ _
      | exact hist_Fold.mono _ _ _ _
      | exact hist_Lay.mono _ _ _ _ _ _ _ _
      | exact LeO.none _
      | refine LeO.ite ?_ ?_
      | refine LeO.bind ?_ (fun _ => ?_)
theorem batonlaw04_HistLays.mono : ∀ a0 a1 a2 k, LeO (batonlaw04_HistLays.f k a0 a1 a2) (batonlaw04_HistLays.f (k + 1) a0 a1 a2) := by
  intro a0 a1 a2 k
  obtain ⟨ih0, ih1⟩ := batonlaw04_HistLays.mono_l k
  unfold batonlaw04_HistLays.f
  repeat' first
      | (with_reducible exact ih0 _ _ _ _)
      | (with_reducible exact ih1 _ _ _)
      | (with_reducible exact batonlaw04_live.mono _)
      | (with_reducible exact batonref03_Few.mono _ _ _)
      | (with_reducible exact batonref03_FewEvents.mono _ _ _)
      | (with_reducible exact batonref03_KVs.mono _ _ _)
      | (with_reducible exact batonref04_Fold.mono _ _ _ _)
      | (with_reducible exact batonref04_Lay.mono _ _ _ _ _ _ _ _)
      | (with_reducible exact hist_Fold.mono _ _ _ _)
      | (with_reducible exact hist_Lay.mono _ _ _ _ _ _ _ _)
      | (with_reducible exact LeO.refl _)
      | (with_reducible exact LeO.none _)
      | (with_reducible refine LeO.ite ?_ ?_)
      | (with_reducible refine LeO.bind ?_ (fun _ => ?_))
      | exact ih0 _ _ _ _
      | exact ih1 _ _ _
      | exact batonlaw04_live.mono _
      | exact batonref03_Few.mono _ _ _
      | exact batonref03_FewEvents.mono _ _ _
      | exact batonref03_KVs.mono _ _ _
      | exact batonref04_Fold.mono _ _ _ _
      | exact batonref04_Lay.mono _ _ _ _ _ _ _ _
      | exact hist_Fold.mono _ _ _ _
      | exact hist_Lay.mono _ _ _ _ _ _ _ _
      | exact LeO.none _
      | refine LeO.ite ?_ ?_
      | refine LeO.bind ?_ (fun _ => ?_)
def batonlaw04_HistLays.T8 : Bool × List (List Nat × List Nat) := (true, [([], []), ([], []), ([], []), ([1, 2], [1, 2]), ([3], [3]), ([4], [4]), ([0, 5], [0, 5]), ([], []), ([], []), ([], []), ([8, 9], [8, 9]), ([10], [10]), ([11], [11]), ([7, 12, 6], [7, 12]), ([6, 13, 13], [6, 13]), ([14], [14])])
def batonlaw04_HistLays.B8 : List Nat := [0, 0, 0, 6, 14, 30, 63, 0, 0, 0, 768, 1792, 3840, 8191, 16383, 32767]
theorem batonlaw04_HistLays.tab8 : rtab .any (opsOf Try.f4 8) = batonlaw04_HistLays.T8 := by kernel_rfl
theorem batonlaw04_HistLays.bits8 : waitsOk batonlaw04_HistLays.T8.2 batonlaw04_HistLays.B8 = true := by kernel_rfl
set_option maxHeartbeats 8000000 in
set_option maxRecDepth 100000 in
theorem batonlaw04_HistLays.calls (k : Nat) (A0 : Option Addr) (c0 : Nat) (l0 : List (S26)) (A1 : Option Addr) (c1 : Nat) (l1 : List (S38)) (a2 : Int) (r : Bool) (w : World) (hr0 : Kd.C k26 w A0 l0.length l0) (hc0 : l0.length ≤ c0) (hr1 : Kd.C k38 w A1 l1.length l1) (hc1 : l1.length ≤ c1) (h : batonlaw04_HistLays.f k l0 l1 a2 = some r) :
    Calls Try.prog 4 #[.slice A0 l0.length c0, .slice A1 l1.length c1, .int .i64 a2] w fun e w' => e = .returned (.bool r) ∧ Below w.heap.size w w' := by
  have hu26 := Try.underlying26
  have HR0 := Aside0.mk hr0
  have HC0 := Aside0.mk hc0
  clear hr0 hc0
  have HR1 := Aside0.mk hr1
  have HC1 := Aside0.mk hc1
  clear hr1 hc1
  have HB := Aside0.mk (Below.refl w.heap.size w)
  have H : ((batonref03_Few.f k l0 40).bind fun t360 => (if t360 = true then ((batonref03_FewEvents.f k l1 40).bind fun t361 => (batonlaw04_HistLays.j0 k l0 l1 a2 (!t361))) else (batonlaw04_HistLays.j0 k l0 l1 a2 true))) = some r := h
  clear h
  have HC4 := Aside0.mk H
  clear H
  go_enter Try.func4, Try.ntmps4
  go_upto_region 1 with (fail)
  go_cut [15] (fun v15 wc => ∃ (kq : Nat) (x15_3 : Bool), v15 = .bool x15_3 ∧ Aside0 (batonlaw04_HistLays.j0 kq l0 l1 a2 x15_3 = some r) ∧ Aside0 (kq ≤ k) ∧ Aside0 (Below w.heap.size w wc))
  case first =>
    have H := HC4.out
    clear HC4
    replace H := Option.bind_eq_some_iff.mp H
    obtain ⟨t360, A50, H⟩ := H
    replace H : (if t360 = true then ((batonref03_FewEvents.f k l1 40).bind fun t361 => (batonlaw04_HistLays.j0 k l0 l1 a2 (!t361))) else (batonlaw04_HistLays.j0 k l0 l1 a2 true)) = some r := H
    have A5 := Aside0.mk A50
    clear A50
    by_cases c6 : t360 = true
    · subst c6
      have H1 : ((batonref03_FewEvents.f k l1 40).bind fun t361 => (batonlaw04_HistLays.j0 k l0 l1 a2 (!t361))) = some r := by rw [if_pos rfl] at H; exact H
      clear H
      have H := H1
      clear H1
      replace H := Option.bind_eq_some_iff.mp H
      obtain ⟨t361, A70, H⟩ := H
      replace H : (batonlaw04_HistLays.j0 k l0 l1 a2 (!t361)) = some r := H
      have A7 := Aside0.mk A70
      clear A70
      have H' := Aside0.mk H
      clear H
      go_wp2_with (first | ((with_reducible refine gate_callee (f := 9) rfl ?_); refine goesL_ (some 9) rfl rfl Try.func9 (by kernel_rfl) rfl #[.slice A0 l0.length c0, .int .i64 40] rfl (by (try simp only [List.map_toArray, List.map_cons, List.map_nil]); first | done | rfl | (simp only [List.length_drop, List.length_take]; rfl)) ?_; (with_reducible refine (batonref03_Few.calls k _ _ l0 40 true _ ?side1 ?side2 A5.out).mono ?_); (case side1 => repeat (first | exact (Kd.C_below HR0.out HB.out) | (with_reducible refine Kd.C_alloc ?_ _) | (with_reducible refine Kd.C_drewN ?_ _) | (with_reducible refine Kd.C_drew ?_))); (case side2 => exact HC0.out); rintro e w' ⟨rfl, ⟨nd, rfl⟩⟩; refine ⟨_, rfl, ?_⟩) | (go_at_call 20; (with_reducible refine (batonref03_FewEvents.calls k _ _ l1 40 t361 _ ?side1 ?side2 A7.out).mono ?_); (case side1 => repeat (first | exact (Kd.C_below HR1.out (by repeat (first | (with_reducible first | exact HB.out | apply below_alloc | apply pw_below_drewN | apply below_drew1) | exact HB.out))) | (with_reducible refine Kd.C_alloc ?_ _) | (with_reducible refine Kd.C_drewN ?_ _) | (with_reducible refine Kd.C_drew ?_))); (case side2 => exact HC1.out); rintro e w' ⟨rfl, ⟨nd, rfl⟩⟩))
      go_meet
      case rel => exact ⟨_, (!t361), (by first | rfl | (simp; done) | (simp [*]; done)), H', ⟨by first | omega | exact Nat.le_refl _⟩, ⟨by repeat (first | (with_reducible first | exact HB.out | apply below_alloc | apply pw_below_drewN | apply below_drew1) | exact HB.out)⟩⟩
    · replace c6 := Bool.eq_false_iff.mpr c6
      subst c6
      have H1 : (batonlaw04_HistLays.j0 k l0 l1 a2 true) = some r := by rw [if_neg (show ¬ (false = true) by decide)] at H; exact H
      clear H
      have H := H1
      clear H1
      have H' := Aside0.mk H
      clear H
      go_wp2_with (first | ((with_reducible refine gate_callee (f := 9) rfl ?_); refine goesL_ (some 9) rfl rfl Try.func9 (by kernel_rfl) rfl #[.slice A0 l0.length c0, .int .i64 40] rfl (by (try simp only [List.map_toArray, List.map_cons, List.map_nil]); first | done | rfl | (simp only [List.length_drop, List.length_take]; rfl)) ?_; (with_reducible refine (batonref03_Few.calls k _ _ l0 40 false _ ?side1 ?side2 A5.out).mono ?_); (case side1 => repeat (first | exact (Kd.C_below HR0.out HB.out) | (with_reducible refine Kd.C_alloc ?_ _) | (with_reducible refine Kd.C_drewN ?_ _) | (with_reducible refine Kd.C_drew ?_))); (case side2 => exact HC0.out); rintro e w' ⟨rfl, ⟨nd, rfl⟩⟩; refine ⟨_, rfl, ?_⟩))
      go_meet
      case rel => exact ⟨_, (true), (by first | rfl | (simp; done) | (simp [*]; done)), H', ⟨by first | omega | exact Nat.le_refl _⟩, ⟨by repeat (first | (with_reducible first | exact HB.out | apply below_alloc | apply pw_below_drewN | apply below_drew1) | exact HB.out)⟩⟩
  case rest =>
    clear HC4
    try clear c1
    try clear p2
    try clear c4
    try clear c6
    obtain ⟨kq, x15_3, rfl, HA, HJ3, HB⟩ := hcut
    cases kq with
    | zero => exact absurd HA.out (by simp [batonlaw04_HistLays.j0])
    | succ kj3 =>
      have H := HA.out
      clear HA
      simp only [batonlaw04_HistLays.j0] at H
      by_cases c8 : x15_3 = true
      · subst c8
        have H1 : ((batonlaw04_live.f kj3).bind fun t362 => (some t362)) = some r := by rw [if_pos rfl] at H; exact H
        clear H
        have H := H1
        clear H1
        replace H := Option.bind_eq_some_iff.mp H
        obtain ⟨t362, A90, H⟩ := H
        replace H : (some t362) = some r := H
        have A9 := Aside0.mk A90
        clear A90
        obtain rfl := Option.some.inj H
        go_wp2_with (first | ((with_reducible refine gate_callee (f := 10) rfl ?_); refine goesL_ (some 16) rfl rfl Try.func10 (by kernel_rfl) rfl #[] rfl (by (try simp only [List.map_toArray, List.map_cons, List.map_nil]); first | done | rfl | (simp only [List.length_drop, List.length_take]; rfl)) ?_; (with_reducible refine (batonlaw04_live.calls kj3  t362 _ A9.out).mono ?_); rintro e w10 ⟨rfl, hb⟩; refine ⟨_, rfl, ?_⟩; have n0_ := Aside0.mk (below_step (by repeat (first | (with_reducible first | exact HB.out | apply below_alloc | apply pw_below_drewN | apply below_drew1) | exact HB.out)) hb); clear HB; have HB := n0_; clear n0_; (try clear hb); (try clear hb2); (try clear hk); (try clear hi)))
        go_ret
        exact ⟨by first | rfl | (simp [errW_none, errW_some] <;> rfl) | (simp [*, errW_none, errW_some] <;> rfl), by repeat (first | (with_reducible first | exact HB.out | apply below_alloc | apply pw_below_drewN | apply below_drew1) | exact HB.out)⟩
      · replace c8 := Bool.eq_false_iff.mpr c8
        subst c8
        have H1 : ((hist_Fold.f kj3 l0 l1 a2).bind fun t363 => ((batonref04_Fold.f kj3 l0 l1 a2).bind fun t366 => ((batonref03_KVs.f kj3 t363 t366).bind fun t369 => (if t369 = true then (batonlaw04_HistLays.l0 kj3 l0 l1 0) else (none))))) = some r := by rw [if_neg (show ¬ (false = true) by decide)] at H; exact H
        clear H
        have H := H1
        clear H1
        replace H := Option.bind_eq_some_iff.mp H
        obtain ⟨t363, A110, H⟩ := H
        replace H : ((batonref04_Fold.f kj3 l0 l1 a2).bind fun t366 => ((batonref03_KVs.f kj3 t363 t366).bind fun t369 => (if t369 = true then (batonlaw04_HistLays.l0 kj3 l0 l1 0) else (none)))) = some r := H
        have A11 := Aside0.mk A110
        clear A110
        replace H := Option.bind_eq_some_iff.mp H
        obtain ⟨t366, A120, H⟩ := H
        replace H : ((batonref03_KVs.f kj3 t363 t366).bind fun t369 => (if t369 = true then (batonlaw04_HistLays.l0 kj3 l0 l1 0) else (none))) = some r := H
        have A12 := Aside0.mk A120
        clear A120
        replace H := Option.bind_eq_some_iff.mp H
        obtain ⟨t369, A130, H⟩ := H
        replace H : (if t369 = true then (batonlaw04_HistLays.l0 kj3 l0 l1 0) else (none)) = some r := H
        have A13 := Aside0.mk A130
        clear A130
        by_cases c14 : t369 = true
        · subst c14
          have H1 : (batonlaw04_HistLays.l0 kj3 l0 l1 0) = some r := by rw [if_pos rfl] at H; exact H
          clear H
          have H := H1
          clear H1
          have H' := Aside0.mk H
          clear H
          go_wp2_with (first | ((with_reducible refine gate_callee (f := 21) rfl ?_); refine goesL_ (some 20) rfl rfl Try.func21 (by kernel_rfl) rfl #[.slice A0 l0.length c0, .slice A1 l1.length c1, .int .i64 a2] rfl (by (try simp only [List.map_toArray, List.map_cons, List.map_nil]); first | done | rfl | (simp only [List.length_drop, List.length_take]; rfl)) ?_; (with_reducible refine (hist_Fold.calls kj3 _ _ l0 _ _ l1 a2 t363 _ ?side1 ?side2 ?side3 ?side4 A11.out).mono ?_); (case side1 => repeat (first | exact (Kd.C_below HR0.out HB.out) | (with_reducible refine Kd.C_alloc ?_ _) | (with_reducible refine Kd.C_drewN ?_ _) | (with_reducible refine Kd.C_drew ?_))); (case side2 => exact HC0.out); (case side3 => repeat (first | exact (Kd.C_below HR1.out HB.out) | (with_reducible refine Kd.C_alloc ?_ _) | (with_reducible refine Kd.C_drewN ?_ _) | (with_reducible refine Kd.C_drew ?_))); (case side4 => exact HC1.out); rintro e w15 ⟨v364, rfl, ho0, hb⟩; refine ⟨_, rfl, ?_⟩; have n0_ := Aside0.mk (Kd.R_lower ho0 (below_size (by repeat (first | (with_reducible first | exact HB.out | apply below_alloc | apply pw_below_drewN | apply below_drew1) | exact HB.out)))); have n1_ := Aside0.mk (below_step (by repeat (first | (with_reducible first | exact HB.out | apply below_alloc | apply pw_below_drewN | apply below_drew1) | exact HB.out)) hb); clear HB; have HO365 := n0_; have HB := n1_; clear n0_ n1_; (try clear hb); (try clear hb2); (try clear hk); (try clear hi); (try clear ho0)) | ((with_reducible refine gate_callee (f := 22) rfl ?_); refine goesL_ (some 24) rfl rfl Try.func22 (by kernel_rfl) rfl #[.slice A0 l0.length c0, .slice A1 l1.length c1, .int .i64 a2] rfl (by (try simp only [List.map_toArray, List.map_cons, List.map_nil]); first | done | rfl | (simp only [List.length_drop, List.length_take]; rfl)) ?_; (with_reducible refine (batonref04_Fold.calls kj3 (fun k_ => k_ < w.heap.size) _ _ l0 _ _ l1 a2 t366 _ ?side1 ?side2 ?side3 A12.out).mono ?_); (case side1 => exact Kd.V_mk HC0.out (Kd.F_below (Kd.C_F k26_heap HR0.out) (by repeat (first | (with_reducible first | exact HB.out | apply below_alloc | apply pw_below_drewN | apply below_drew1) | exact HB.out)))); (case side2 => repeat (first | exact (Kd.C_below HR1.out HB.out) | (with_reducible refine Kd.C_alloc ?_ _) | (with_reducible refine Kd.C_drewN ?_ _) | (with_reducible refine Kd.C_drew ?_))); (case side3 => exact HC1.out); rintro e w16 ⟨v367, rfl, ho0, hb⟩; refine ⟨_, rfl, ?_⟩; have n0_ := Aside0.mk (Kd.R_below (by (with_reducible repeat (first | apply Kd.R_alloc | apply Kd.R_drewN | apply Kd.R_drew)); exact HO365.out) hb); have n1_ := Aside0.mk (Kd.V_lower (Kd.V_mono (ok' := fun k_ => some k_ ≠ (v364 : Value).ownBlock) ho0 (fun k_ hk_ => Or.elim hk_ (fun hs_ => fun e_ => Nat.not_le.2 hs_ (Kd.R_base HO365.out k_ e_.symm)) (fun hn_ => (Kd.fresh' (Kd.R_lt (by (with_reducible repeat (first | apply Kd.R_alloc | apply Kd.R_drewN | apply Kd.R_drew)); exact HO365.out)) k_ hn_)))) (below_size (by repeat (first | (with_reducible first | exact HB.out | apply below_alloc | apply pw_below_drewN | apply below_drew1) | exact HB.out)))); have n2_ := Aside0.mk (below_step (by repeat (first | (with_reducible first | exact HB.out | apply below_alloc | apply pw_below_drewN | apply below_drew1) | exact HB.out)) hb); clear HO365; clear HB; have HO365 := n0_; have HO368 := n1_; have HB := n2_; clear n0_ n1_ n2_; (try clear hb); (try clear hb2); (try clear hk); (try clear hi); (try clear ho0); obtain ⟨Ao17, co17, eo17⟩ := Kd.R_slice HO365.out; subst eo17; obtain ⟨Ao18, co18, eo18⟩ := Kd.V_slice HO368.out; subst eo18) | ((with_reducible refine gate_callee (f := 15) rfl ?_); refine goesL_ (some 25) rfl rfl Try.func15 (by kernel_rfl) rfl #[.slice Ao17 t363.length co17, .slice Ao18 t366.length co18] rfl (by (try simp only [List.map_toArray, List.map_cons, List.map_nil]); first | done | rfl | (simp only [List.length_drop, List.length_take]; rfl)) ?_; (with_reducible refine (batonref03_KVs.calls kj3 _ _ t363 _ _ t366 true _ ?side1 ?side2 ?side3 ?side4 A13.out).mono ?_); (case side1 => repeat (first | exact (Kd.R_reads' HO365.out).2.2 | (with_reducible refine Kd.C_alloc ?_ _) | (with_reducible refine Kd.C_drewN ?_ _) | (with_reducible refine Kd.C_drew ?_))); (case side2 => exact (Kd.R_reads' HO365.out).2.1); (case side3 => repeat (first | exact (Kd.V_reads' HO368.out).2.2 | (with_reducible refine Kd.C_alloc ?_ _) | (with_reducible refine Kd.C_drewN ?_ _) | (with_reducible refine Kd.C_drew ?_))); (case side4 => exact (Kd.V_reads' HO368.out).2.1); rintro e w' ⟨rfl, ⟨nd, rfl⟩⟩; refine ⟨_, rfl, ?_⟩))
          go_loopg [7] kj3 (fun kq v7 w' => ∃ (x7_2 : Int), v7 = .int .i64 x7_2 ∧ Aside0 (batonlaw04_HistLays.l0 kq l0 l1 x7_2 = some r) ∧ Aside0 (kq ≤ kj3) ∧ Aside0 (Below w.heap.size w w'))
          case atStart => exact ⟨(0), (by first | rfl | (simp; done) | (simp [*]; done)), H', ⟨Nat.le_refl _⟩, ⟨by repeat (first | (with_reducible first | exact HB.out | apply below_alloc | apply pw_below_drewN | apply below_drew1) | exact HB.out)⟩⟩
          case round =>
            clear H'
            try clear c1
            try clear c2
            try clear p2
            try clear c4
            try clear c6
            try clear c8
            try clear c9
            try clear c10
            try clear c14
            try clear c15
            try clear p2
            obtain ⟨x7_2, rfl, HA, HK2, HB⟩ := hrel
            cases gk with
            | zero => exact absurd HA.out (by simp [batonlaw04_HistLays.l0])
            | succ k2 =>
              have H := HA.out
              clear HA
              simp only [batonlaw04_HistLays.l0] at H
              by_cases c19 : x7_2 < (l1.length : Int)
              · rw [if_pos c19] at H
                have c19b0 : decide (x7_2 < (l1.length : Int)) = true := decide_eq_true c19
                clear c19
                by_cases c20 : 0 ≤ x7_2
                · rw [if_pos c20] at H
                  have c20b0 : decide (0 ≤ x7_2) = true := decide_eq_true c20
                  clear c20
                  replace H := Option.bind_eq_some_iff.mp H
                  obtain ⟨t372, A210, H⟩ := H
                  replace H : ((batonref04_Lay.f k2 l0 ((rd_T38 l1 x7_2).f2.f0) ((rd_T38 l1 x7_2).f2.f1) ((rd_T38 l1 x7_2).f2.f2) ((rd_T38 l1 x7_2).f2.f3) ((rd_T38 l1 x7_2).f2.f4) ((rd_T38 l1 x7_2).f2.f5)).bind fun t376 => ((batonref03_KVs.f k2 t372 t376).bind fun t379 => (if t379 = true then (batonlaw04_HistLays.l0 k2 l0 l1 (wrap64 (x7_2 + 1))) else (none)))) = some r := H
                  have A21 := Aside0.mk A210
                  clear A210
                  replace H := Option.bind_eq_some_iff.mp H
                  obtain ⟨t376, A220, H⟩ := H
                  replace H : ((batonref03_KVs.f k2 t372 t376).bind fun t379 => (if t379 = true then (batonlaw04_HistLays.l0 k2 l0 l1 (wrap64 (x7_2 + 1))) else (none))) = some r := H
                  have A22 := Aside0.mk A220
                  clear A220
                  replace H := Option.bind_eq_some_iff.mp H
                  obtain ⟨t379, A230, H⟩ := H
                  replace H : (if t379 = true then (batonlaw04_HistLays.l0 k2 l0 l1 (wrap64 (x7_2 + 1))) else (none)) = some r := H
                  have A23 := Aside0.mk A230
                  clear A230
                  by_cases c24 : t379 = true
                  · subst c24
                    have H1 : (batonlaw04_HistLays.l0 k2 l0 l1 (wrap64 (x7_2 + 1))) = some r := by rw [if_pos rfl] at H; exact H
                    clear H
                    have H := H1
                    clear H1
                    have H' := Aside0.mk H
                    clear H
                    try go_wp2
                    have n0_ := Aside0.mk (below_drew1 HB.out)
                    clear HB
                    have HB := n0_
                    clear n0_
                    have p371 : 0 ≤ (x7_2 : Int) := of_decide_eq_true (by first | (with_reducible assumption) | assumption)
                    have q371 : x7_2 < (l1.length : Int) := of_decide_eq_true (by first | (with_reducible assumption) | assumption)
                    obtain ⟨ad371, e371, hx371_0, hx371_1, hx371_2, hx371_3, hx371_4, hx371_5, hx371_6, hx371_7⟩ := at_T38 HR1.out x7_2 p371 q371
                    have hw371_7 := hx371_7
                    have hw371_6 := hx371_6
                    have hw371_5 := hx371_5
                    have hw371_4 := hx371_4
                    have hw371_3 := hx371_3
                    have hw371_2 := hx371_2
                    have hw371_1 := hx371_1
                    have hw371_0 := hx371_0
                    cases e371
                    replace hx371_0 := (HB.out.cell (World.block_lt_of_cell? w _ hx371_0)).trans hx371_0
                    replace hx371_1 := (HB.out.cell (World.block_lt_of_cell? w _ hx371_1)).trans hx371_1
                    replace hx371_2 := (HB.out.cell (World.block_lt_of_cell? w _ hx371_2)).trans hx371_2
                    replace hx371_3 := (HB.out.cell (World.block_lt_of_cell? w _ hx371_3)).trans hx371_3
                    replace hx371_4 := (HB.out.cell (World.block_lt_of_cell? w _ hx371_4)).trans hx371_4
                    replace hx371_5 := (HB.out.cell (World.block_lt_of_cell? w _ hx371_5)).trans hx371_5
                    replace hx371_6 := (HB.out.cell (World.block_lt_of_cell? w _ hx371_6)).trans hx371_6
                    replace hx371_7 := (HB.out.cell (World.block_lt_of_cell? w _ hx371_7)).trans hx371_7
                    replace p371 := eq_true p371
                    replace q371 := eq_true q371
                    have p375 : 0 ≤ (x7_2 : Int) := of_decide_eq_true (by first | (with_reducible assumption) | assumption)
                    have q375 : x7_2 < (l1.length : Int) := of_decide_eq_true (by first | (with_reducible assumption) | assumption)
                    obtain ⟨ad375, e375, hx375_0, hx375_1, hx375_2, hx375_3, hx375_4, hx375_5, hx375_6, hx375_7⟩ := at_T38 HR1.out x7_2 p375 q375
                    have hw375_7 := hx375_7
                    have hw375_6 := hx375_6
                    have hw375_5 := hx375_5
                    have hw375_4 := hx375_4
                    have hw375_3 := hx375_3
                    have hw375_2 := hx375_2
                    have hw375_1 := hx375_1
                    have hw375_0 := hx375_0
                    obtain rfl : ad371 = ad375 := (by injection e375)
                    replace hx375_0 := (HB.out.cell (World.block_lt_of_cell? w _ hx375_0)).trans hx375_0
                    replace hx375_1 := (HB.out.cell (World.block_lt_of_cell? w _ hx375_1)).trans hx375_1
                    replace hx375_2 := (HB.out.cell (World.block_lt_of_cell? w _ hx375_2)).trans hx375_2
                    replace hx375_3 := (HB.out.cell (World.block_lt_of_cell? w _ hx375_3)).trans hx375_3
                    replace hx375_4 := (HB.out.cell (World.block_lt_of_cell? w _ hx375_4)).trans hx375_4
                    replace hx375_5 := (HB.out.cell (World.block_lt_of_cell? w _ hx375_5)).trans hx375_5
                    replace hx375_6 := (HB.out.cell (World.block_lt_of_cell? w _ hx375_6)).trans hx375_6
                    replace hx375_7 := (HB.out.cell (World.block_lt_of_cell? w _ hx375_7)).trans hx375_7
                    replace p375 := eq_true p375
                    replace q375 := eq_true q375
                    refine start_ (n := 16) (S := fun w' => w'.cell? (ad371.add ((x7_2).toNat * 8)) = some (.int .i64 ((rd_T38 l1 x7_2).f0)) ∧ w'.cell? ⟨(ad371.add ((x7_2).toNat * 8)).block, (ad371.add ((x7_2).toNat * 8)).off + 1, none⟩ = some (.bool ((rd_T38 l1 x7_2).f1)) ∧ w'.cell? ⟨(ad371.add ((x7_2).toNat * 8)).block, (ad371.add ((x7_2).toNat * 8)).off + 2, none⟩ = some (.string ((rd_T38 l1 x7_2).f2.f0)) ∧ w'.cell? ⟨(ad371.add ((x7_2).toNat * 8)).block, (ad371.add ((x7_2).toNat * 8)).off + 3, none⟩ = some (.string ((rd_T38 l1 x7_2).f2.f1)) ∧ w'.cell? ⟨(ad371.add ((x7_2).toNat * 8)).block, (ad371.add ((x7_2).toNat * 8)).off + 4, none⟩ = some (.int .i64 ((rd_T38 l1 x7_2).f2.f2)) ∧ w'.cell? ⟨(ad371.add ((x7_2).toNat * 8)).block, (ad371.add ((x7_2).toNat * 8)).off + 5, none⟩ = some (.int .i64 ((rd_T38 l1 x7_2).f2.f3)) ∧ w'.cell? ⟨(ad371.add ((x7_2).toNat * 8)).block, (ad371.add ((x7_2).toNat * 8)).off + 6, none⟩ = some (.int .i64 ((rd_T38 l1 x7_2).f2.f4)) ∧ w'.cell? ⟨(ad371.add ((x7_2).toNat * 8)).block, (ad371.add ((x7_2).toNat * 8)).off + 7, none⟩ = some (.int .i64 ((rd_T38 l1 x7_2).f2.f5)) ∧ w'.cell? (ad371.add ((x7_2).toNat * 8)) = some (.int .i64 ((rd_T38 l1 x7_2).f0)) ∧ w'.cell? ⟨(ad371.add ((x7_2).toNat * 8)).block, (ad371.add ((x7_2).toNat * 8)).off + 1, none⟩ = some (.bool ((rd_T38 l1 x7_2).f1)) ∧ w'.cell? ⟨(ad371.add ((x7_2).toNat * 8)).block, (ad371.add ((x7_2).toNat * 8)).off + 2, none⟩ = some (.string ((rd_T38 l1 x7_2).f2.f0)) ∧ w'.cell? ⟨(ad371.add ((x7_2).toNat * 8)).block, (ad371.add ((x7_2).toNat * 8)).off + 3, none⟩ = some (.string ((rd_T38 l1 x7_2).f2.f1)) ∧ w'.cell? ⟨(ad371.add ((x7_2).toNat * 8)).block, (ad371.add ((x7_2).toNat * 8)).off + 4, none⟩ = some (.int .i64 ((rd_T38 l1 x7_2).f2.f2)) ∧ w'.cell? ⟨(ad371.add ((x7_2).toNat * 8)).block, (ad371.add ((x7_2).toNat * 8)).off + 5, none⟩ = some (.int .i64 ((rd_T38 l1 x7_2).f2.f3)) ∧ w'.cell? ⟨(ad371.add ((x7_2).toNat * 8)).block, (ad371.add ((x7_2).toNat * 8)).off + 6, none⟩ = some (.int .i64 ((rd_T38 l1 x7_2).f2.f4)) ∧ w'.cell? ⟨(ad371.add ((x7_2).toNat * 8)).block, (ad371.add ((x7_2).toNat * 8)).off + 7, none⟩ = some (.int .i64 ((rd_T38 l1 x7_2).f2.f5))) (ds := []) #[false, false, false, false, false, false, false, false, false, false, false, false, false, false, false, false] (by kernel_rfl) rfl rfl ⟨((HB.out.cell (World.block_lt_of_cell? w _ hw371_0)).trans hw371_0), ((HB.out.cell (World.block_lt_of_cell? w _ hw371_1)).trans hw371_1), ((HB.out.cell (World.block_lt_of_cell? w _ hw371_2)).trans hw371_2), ((HB.out.cell (World.block_lt_of_cell? w _ hw371_3)).trans hw371_3), ((HB.out.cell (World.block_lt_of_cell? w _ hw371_4)).trans hw371_4), ((HB.out.cell (World.block_lt_of_cell? w _ hw371_5)).trans hw371_5), ((HB.out.cell (World.block_lt_of_cell? w _ hw371_6)).trans hw371_6), ((HB.out.cell (World.block_lt_of_cell? w _ hw371_7)).trans hw371_7), ((HB.out.cell (World.block_lt_of_cell? w _ hw375_0)).trans hw375_0), ((HB.out.cell (World.block_lt_of_cell? w _ hw375_1)).trans hw375_1), ((HB.out.cell (World.block_lt_of_cell? w _ hw375_2)).trans hw375_2), ((HB.out.cell (World.block_lt_of_cell? w _ hw375_3)).trans hw375_3), ((HB.out.cell (World.block_lt_of_cell? w _ hw375_4)).trans hw375_4), ((HB.out.cell (World.block_lt_of_cell? w _ hw375_5)).trans hw375_5), ((HB.out.cell (World.block_lt_of_cell? w _ hw375_6)).trans hw375_6), ((HB.out.cell (World.block_lt_of_cell? w _ hw375_7)).trans hw375_7)⟩ (fun hHeld => ?_); refine with_tabW batonlaw04_HistLays.tab8 batonlaw04_HistLays.bits8 (fun HT_ HW_ => ?_)
                    generalize wr.drew = w25 at HB hx371_0 hx371_1 hx371_2 hx371_3 hx371_4 hx371_5 hx371_6 hx371_7 hx375_0 hx375_1 hx375_2 hx375_3 hx375_4 hx375_5 hx375_6 hx375_7 hHeld ⊢
                    refine pure_ (i := 0) (N := some 33) (v := ?_) (a' := ?_) #[true, false, false, false, false, false, false, false, false, false, false, false, false, false, false, false] rfl rfl (any_of HT_.out (by kernel_rfl)) (fun _ _ _ h => h) (Or.inl ⟨by rfl, ?_⟩) ?_ ?_
                    rotate_left
                    · intro w'
                      go_simp
                      with_reducible rfl
                    rotate_left
                    · simp only [Act.put, List.setIfInBounds_toArray, List.set_cons_zero, List.set_cons_succ, i64_w, i32_w]
                      rfl
                    refine pure_ (i := 1) (N := some 34) (v := ?_) (a' := ?_) #[true, true, false, false, false, false, false, false, false, false, false, false, false, false, false, false] rfl rfl (any_of HT_.out (by kernel_rfl)) (fun _ _ _ h => h) (Or.inl ⟨by rfl, ?_⟩) ?_ ?_
                    rotate_left
                    · intro w'
                      go_simp
                      with_reducible rfl
                    rotate_left
                    · simp only [Act.put, List.setIfInBounds_toArray, List.set_cons_zero, List.set_cons_succ, i64_w, i32_w]
                      rfl
                    refine pure_ (i := 2) (N := some 35) (v := ?_) (a' := ?_) #[true, true, true, false, false, false, false, false, false, false, false, false, false, false, false, false] rfl rfl (any_of HT_.out (by kernel_rfl)) (fun _ _ _ h => h) (Or.inl ⟨by rfl, ?_⟩) ?_ ?_
                    rotate_left
                    · intro w'
                      go_simp
                      with_reducible rfl
                    rotate_left
                    · simp only [Act.put, List.setIfInBounds_toArray, List.set_cons_zero, List.set_cons_succ, i64_w, i32_w]
                      rfl
                    refine pure_ (i := 3) (N := some 36) (v := ?_) (a' := ?_) #[true, true, true, true, false, false, false, false, false, false, false, false, false, false, false, false] rfl rfl (any_of HT_.out (by kernel_rfl)) (fun _ _ _ h => h) (Or.inl ⟨by rfl, ?_⟩) ?_ ?_
                    rotate_left
                    · intro w'
                      go_simp
                      with_reducible rfl
                    rotate_left
                    · simp only [Act.put, List.setIfInBounds_toArray, List.set_cons_zero, List.set_cons_succ, i64_w, i32_w]
                      rfl
                    refine pure_ (i := 4) (N := some 37) (v := ?_) (a' := ?_) #[true, true, true, true, true, false, false, false, false, false, false, false, false, false, false, false] rfl rfl (any_of HT_.out (by kernel_rfl)) (fun _ _ _ h => h) (Or.inl ⟨by rfl, ?_⟩) ?_ ?_
                    rotate_left
                    · intro w'
                      go_simp
                      with_reducible rfl
                    rotate_left
                    · simp only [Act.put, List.setIfInBounds_toArray, List.set_cons_zero, List.set_cons_succ, i64_w, i32_w]
                      rfl
                    refine pure_ (i := 7) (N := some 40) (v := ?_) (a' := ?_) #[true, true, true, true, true, false, false, true, false, false, false, false, false, false, false, false] rfl rfl (any_of HT_.out (by kernel_rfl)) (fun _ _ _ h => h) (Or.inl ⟨by rfl, ?_⟩) ?_ ?_
                    rotate_left
                    · intro w'
                      go_simp
                      with_reducible rfl
                    rotate_left
                    · simp only [Act.put, List.setIfInBounds_toArray, List.set_cons_zero, List.set_cons_succ, i64_w, i32_w]
                      rfl
                    refine pure_ (i := 8) (N := some 41) (v := ?_) (a' := ?_) #[true, true, true, true, true, false, false, true, true, false, false, false, false, false, false, false] rfl rfl (any_of HT_.out (by kernel_rfl)) (fun _ _ _ h => h) (Or.inl ⟨by rfl, ?_⟩) ?_ ?_
                    rotate_left
                    · intro w'
                      go_simp
                      with_reducible rfl
                    rotate_left
                    · simp only [Act.put, List.setIfInBounds_toArray, List.set_cons_zero, List.set_cons_succ, i64_w, i32_w]
                      rfl
                    refine pure_ (i := 9) (N := some 42) (v := ?_) (a' := ?_) #[true, true, true, true, true, false, false, true, true, true, false, false, false, false, false, false] rfl rfl (any_of HT_.out (by kernel_rfl)) (fun _ _ _ h => h) (Or.inl ⟨by rfl, ?_⟩) ?_ ?_
                    rotate_left
                    · intro w'
                      go_simp
                      with_reducible rfl
                    rotate_left
                    · simp only [Act.put, List.setIfInBounds_toArray, List.set_cons_zero, List.set_cons_succ, i64_w, i32_w]
                      rfl
                    refine pure_ (i := 10) (N := some 43) (v := ?_) (a' := ?_) #[true, true, true, true, true, false, false, true, true, true, true, false, false, false, false, false] rfl rfl (any_of HT_.out (by kernel_rfl)) (fun _ _ _ h => h) (Or.inl ⟨by rfl, ?_⟩) ?_ ?_
                    rotate_left
                    · intro w'
                      go_simp
                      with_reducible rfl
                    rotate_left
                    · simp only [Act.put, List.setIfInBounds_toArray, List.set_cons_zero, List.set_cons_succ, i64_w, i32_w]
                      rfl
                    refine pure_ (i := 11) (N := some 44) (v := ?_) (a' := ?_) #[true, true, true, true, true, false, false, true, true, true, true, true, false, false, false, false] rfl rfl (any_of HT_.out (by kernel_rfl)) (fun _ _ _ h => h) (Or.inl ⟨by rfl, ?_⟩) ?_ ?_
                    rotate_left
                    · intro w'
                      go_simp
                      with_reducible rfl
                    rotate_left
                    · simp only [Act.put, List.setIfInBounds_toArray, List.set_cons_zero, List.set_cons_succ, i64_w, i32_w]
                      rfl
                    refine take_ (i := 5) (N := some 38) (v := ?_) (a' := ?_) #[true, true, true, true, true, true, false, true, true, true, true, true, false, false, false, false] rfl rfl (take_ofW HT_.out HW_.out (by kernel_rfl)) (fun _ _ _ h => h) (Or.inl ⟨by rfl, ?_⟩) hHeld ?_ ?_
                    rotate_left
                    · rintro w' ⟨s0, s1, s2, s3, s4, s5, s6, s7, s8, s9, s10, s11, s12, s13, s14, s15⟩
                      go_simp
                      with_reducible rfl
                    rotate_left
                    · simp only [Act.put, List.setIfInBounds_toArray, List.set_cons_zero, List.set_cons_succ, i64_w, i32_w]
                      rfl
                    refine take_ (i := 12) (N := some 45) (v := ?_) (a' := ?_) #[true, true, true, true, true, true, false, true, true, true, true, true, true, false, false, false] rfl rfl (take_ofW HT_.out HW_.out (by kernel_rfl)) (fun _ _ _ h => h) (Or.inl ⟨by rfl, ?_⟩) hHeld ?_ ?_
                    rotate_left
                    · rintro w' ⟨s0, s1, s2, s3, s4, s5, s6, s7, s8, s9, s10, s11, s12, s13, s14, s15⟩
                      go_simp
                      with_reducible rfl
                    rotate_left
                    · simp only [Act.put, List.setIfInBounds_toArray, List.set_cons_zero, List.set_cons_succ, i64_w, i32_w]
                      rfl
                    refine one_ (i := 6) (N := some 39) #[true, true, true, true, true, true, true, true, true, true, true, true, true, false, false, false] rfl rfl (one_of HT_.out (by kernel_rfl)) (by decide) (fun K hK => ?_)
                    refine goes_ Try.func23 (by kernel_rfl) rfl #[.slice A0 l0.length c0, .agg #[.string ((rd_T38 l1 x7_2).f2.f0), .string ((rd_T38 l1 x7_2).f2.f1), .int .i64 ((rd_T38 l1 x7_2).f2.f2), .int .i64 ((rd_T38 l1 x7_2).f2.f3), .int .i64 ((rd_T38 l1 x7_2).f2.f4), .int .i64 ((rd_T38 l1 x7_2).f2.f5)]] (by rfl) rfl rfl (by (try simp only [List.map_toArray, List.map_cons, List.map_nil]); first | done | rfl | (simp only [List.length_drop, List.length_take]; rfl)) ?_
                    with_reducible refine (hist_Lay.calls k2 _ _ l0 ((rd_T38 l1 x7_2).f2.f0) ((rd_T38 l1 x7_2).f2.f1) ((rd_T38 l1 x7_2).f2.f2) ((rd_T38 l1 x7_2).f2.f3) ((rd_T38 l1 x7_2).f2.f4) ((rd_T38 l1 x7_2).f2.f5) t372 _ ?side1 ?side2 A21.out).mono ?_
                    (case side1 => repeat (first | exact (Kd.C_below HR0.out HB.out) | (with_reducible refine Kd.C_alloc ?_ _) | (with_reducible refine Kd.C_drewN ?_ _) | (with_reducible refine Kd.C_drew ?_)))
                    (case side2 => exact HC0.out)
                    rintro e w26 ⟨v373, rfl, ho0, hb⟩
                    refine ⟨_, rfl, ?_⟩
                    have n0_ := Aside0.mk (Kd.R_lower ho0 (below_size (by repeat (first | (with_reducible first | exact HB.out | apply below_alloc | apply pw_below_drewN | apply below_drew1) | exact HB.out))))
                    have n1_ := Aside0.mk (below_step (by repeat (first | (with_reducible first | exact HB.out | apply below_alloc | apply pw_below_drewN | apply below_drew1) | exact HB.out)) hb)
                    clear HB
                    have HO374 := n0_
                    have HB := n1_
                    clear n0_ n1_
                    (try clear hb)
                    (try clear hb2)
                    (try clear hk)
                    (try clear hi)
                    (try clear ho0)
                    refine hK.out _ _ ⟨((HB.out.cell (World.block_lt_of_cell? w _ hw371_0)).trans hw371_0), ((HB.out.cell (World.block_lt_of_cell? w _ hw371_1)).trans hw371_1), ((HB.out.cell (World.block_lt_of_cell? w _ hw371_2)).trans hw371_2), ((HB.out.cell (World.block_lt_of_cell? w _ hw371_3)).trans hw371_3), ((HB.out.cell (World.block_lt_of_cell? w _ hw371_4)).trans hw371_4), ((HB.out.cell (World.block_lt_of_cell? w _ hw371_5)).trans hw371_5), ((HB.out.cell (World.block_lt_of_cell? w _ hw371_6)).trans hw371_6), ((HB.out.cell (World.block_lt_of_cell? w _ hw371_7)).trans hw371_7), ((HB.out.cell (World.block_lt_of_cell? w _ hw375_0)).trans hw375_0), ((HB.out.cell (World.block_lt_of_cell? w _ hw375_1)).trans hw375_1), ((HB.out.cell (World.block_lt_of_cell? w _ hw375_2)).trans hw375_2), ((HB.out.cell (World.block_lt_of_cell? w _ hw375_3)).trans hw375_3), ((HB.out.cell (World.block_lt_of_cell? w _ hw375_4)).trans hw375_4), ((HB.out.cell (World.block_lt_of_cell? w _ hw375_5)).trans hw375_5), ((HB.out.cell (World.block_lt_of_cell? w _ hw375_6)).trans hw375_6), ((HB.out.cell (World.block_lt_of_cell? w _ hw375_7)).trans hw375_7)⟩ (fun hHeld => ?_)
                    clear hK K
                    refine norm_ (a' := ?_) ?_ ?_
                    rotate_left
                    · show Act.put _ (some 39) _ = _
                      simp only [Act.put, List.setIfInBounds_toArray, List.set_cons_zero, List.set_cons_succ, i64_w, i32_w]
                      rfl
                    refine one_ (i := 13) (N := some 46) #[true, true, true, true, true, true, true, true, true, true, true, true, true, true, false, false] rfl rfl (one_of HT_.out (by kernel_rfl)) (by decide) (fun K hK => ?_)
                    refine goes_ Try.func24 (by kernel_rfl) rfl #[.slice A0 l0.length c0, .agg #[.string ((rd_T38 l1 x7_2).f2.f0), .string ((rd_T38 l1 x7_2).f2.f1), .int .i64 ((rd_T38 l1 x7_2).f2.f2), .int .i64 ((rd_T38 l1 x7_2).f2.f3), .int .i64 ((rd_T38 l1 x7_2).f2.f4), .int .i64 ((rd_T38 l1 x7_2).f2.f5)]] (by rfl) rfl rfl (by (try simp only [List.map_toArray, List.map_cons, List.map_nil]); first | done | rfl | (simp only [List.length_drop, List.length_take]; rfl)) ?_
                    with_reducible refine (batonref04_Lay.calls k2 _ _ l0 ((rd_T38 l1 x7_2).f2.f0) ((rd_T38 l1 x7_2).f2.f1) ((rd_T38 l1 x7_2).f2.f2) ((rd_T38 l1 x7_2).f2.f3) ((rd_T38 l1 x7_2).f2.f4) ((rd_T38 l1 x7_2).f2.f5) t376 _ ?side1 ?side2 A22.out).mono ?_
                    (case side1 => repeat (first | exact (Kd.C_below HR0.out HB.out) | (with_reducible refine Kd.C_alloc ?_ _) | (with_reducible refine Kd.C_drewN ?_ _) | (with_reducible refine Kd.C_drew ?_)))
                    (case side2 => exact HC0.out)
                    rintro e w27 ⟨v377, rfl, ho0, hb⟩
                    refine ⟨_, rfl, ?_⟩
                    have n0_ := Aside0.mk (Kd.R_elder' (by (with_reducible repeat (first | apply Kd.R_alloc | apply Kd.R_drewN | apply Kd.R_drew)); exact HO374.out) (Kd.R_base ho0) hb)
                    have n1_ := Aside0.mk (Kd.R_lower (Kd.R_new' ho0 (Kd.R_lt (by (with_reducible repeat (first | apply Kd.R_alloc | apply Kd.R_drewN | apply Kd.R_drew)); exact HO374.out))) (below_size (by repeat (first | (with_reducible first | exact HB.out | apply below_alloc | apply pw_below_drewN | apply below_drew1) | exact HB.out))))
                    have n2_ := Aside0.mk (below_step (by repeat (first | (with_reducible first | exact HB.out | apply below_alloc | apply pw_below_drewN | apply below_drew1) | exact HB.out)) hb)
                    clear HO374
                    clear HB
                    have HO374 := n0_
                    have HO378 := n1_
                    have HB := n2_
                    clear n0_ n1_ n2_
                    (try clear hb)
                    (try clear hb2)
                    (try clear hk)
                    (try clear hi)
                    (try clear ho0)
                    obtain ⟨Ao28, co28, eo28⟩ := Kd.R_slice HO374.out
                    (first | subst eo28 | (injection eo28 with f1_ f2_ f3_; have f4_ := f1_.symm; have f5_ := f3_.symm; clear f1_ f2_ f3_; subst f4_; subst f5_))
                    obtain ⟨Ao29, co29, eo29⟩ := Kd.R_slice HO378.out
                    (first | subst eo29 | (injection eo29 with f1_ f2_ f3_; have f4_ := f1_.symm; have f5_ := f3_.symm; clear f1_ f2_ f3_; subst f4_; subst f5_))
                    refine hK.out _ _ ⟨((HB.out.cell (World.block_lt_of_cell? w _ hw371_0)).trans hw371_0), ((HB.out.cell (World.block_lt_of_cell? w _ hw371_1)).trans hw371_1), ((HB.out.cell (World.block_lt_of_cell? w _ hw371_2)).trans hw371_2), ((HB.out.cell (World.block_lt_of_cell? w _ hw371_3)).trans hw371_3), ((HB.out.cell (World.block_lt_of_cell? w _ hw371_4)).trans hw371_4), ((HB.out.cell (World.block_lt_of_cell? w _ hw371_5)).trans hw371_5), ((HB.out.cell (World.block_lt_of_cell? w _ hw371_6)).trans hw371_6), ((HB.out.cell (World.block_lt_of_cell? w _ hw371_7)).trans hw371_7), ((HB.out.cell (World.block_lt_of_cell? w _ hw375_0)).trans hw375_0), ((HB.out.cell (World.block_lt_of_cell? w _ hw375_1)).trans hw375_1), ((HB.out.cell (World.block_lt_of_cell? w _ hw375_2)).trans hw375_2), ((HB.out.cell (World.block_lt_of_cell? w _ hw375_3)).trans hw375_3), ((HB.out.cell (World.block_lt_of_cell? w _ hw375_4)).trans hw375_4), ((HB.out.cell (World.block_lt_of_cell? w _ hw375_5)).trans hw375_5), ((HB.out.cell (World.block_lt_of_cell? w _ hw375_6)).trans hw375_6), ((HB.out.cell (World.block_lt_of_cell? w _ hw375_7)).trans hw375_7)⟩ (fun hHeld => ?_)
                    clear hK K
                    refine norm_ (a' := ?_) ?_ ?_
                    rotate_left
                    · show Act.put _ (some 46) _ = _
                      simp only [Act.put, List.setIfInBounds_toArray, List.set_cons_zero, List.set_cons_succ, i64_w, i32_w]
                      rfl
                    refine one_ (i := 14) (N := some 47) #[true, true, true, true, true, true, true, true, true, true, true, true, true, true, true, false] rfl rfl (one_of HT_.out (by kernel_rfl)) (by decide) (fun K hK => ?_)
                    refine goes_ Try.func15 (by kernel_rfl) rfl #[.slice Ao28 t372.length co28, .slice Ao29 t376.length co29] (by rfl) rfl rfl (by (try simp only [List.map_toArray, List.map_cons, List.map_nil]); first | done | rfl | (simp only [List.length_drop, List.length_take]; rfl)) ?_
                    with_reducible refine (batonref03_KVs.calls k2 _ _ t372 _ _ t376 true _ ?side1 ?side2 ?side3 ?side4 A23.out).mono ?_
                    (case side1 => repeat (first | exact (Kd.R_reads' HO374.out).2.2 | (with_reducible refine Kd.C_alloc ?_ _) | (with_reducible refine Kd.C_drewN ?_ _) | (with_reducible refine Kd.C_drew ?_)))
                    (case side2 => exact (Kd.R_reads' HO374.out).2.1)
                    (case side3 => repeat (first | exact (Kd.R_reads' HO378.out).2.2 | (with_reducible refine Kd.C_alloc ?_ _) | (with_reducible refine Kd.C_drewN ?_ _) | (with_reducible refine Kd.C_drew ?_)))
                    (case side4 => exact (Kd.R_reads' HO378.out).2.1)
                    rintro e w' ⟨rfl, ⟨nd, rfl⟩⟩
                    refine ⟨_, rfl, ?_⟩
                    refine hK.out _ _ ⟨((HB.out.cell (World.block_lt_of_cell? w _ hw371_0)).trans hw371_0), ((HB.out.cell (World.block_lt_of_cell? w _ hw371_1)).trans hw371_1), ((HB.out.cell (World.block_lt_of_cell? w _ hw371_2)).trans hw371_2), ((HB.out.cell (World.block_lt_of_cell? w _ hw371_3)).trans hw371_3), ((HB.out.cell (World.block_lt_of_cell? w _ hw371_4)).trans hw371_4), ((HB.out.cell (World.block_lt_of_cell? w _ hw371_5)).trans hw371_5), ((HB.out.cell (World.block_lt_of_cell? w _ hw371_6)).trans hw371_6), ((HB.out.cell (World.block_lt_of_cell? w _ hw371_7)).trans hw371_7), ((HB.out.cell (World.block_lt_of_cell? w _ hw375_0)).trans hw375_0), ((HB.out.cell (World.block_lt_of_cell? w _ hw375_1)).trans hw375_1), ((HB.out.cell (World.block_lt_of_cell? w _ hw375_2)).trans hw375_2), ((HB.out.cell (World.block_lt_of_cell? w _ hw375_3)).trans hw375_3), ((HB.out.cell (World.block_lt_of_cell? w _ hw375_4)).trans hw375_4), ((HB.out.cell (World.block_lt_of_cell? w _ hw375_5)).trans hw375_5), ((HB.out.cell (World.block_lt_of_cell? w _ hw375_6)).trans hw375_6), ((HB.out.cell (World.block_lt_of_cell? w _ hw375_7)).trans hw375_7)⟩ (fun hHeld => ?_)
                    clear hK K
                    refine norm_ (a' := ?_) ?_ ?_
                    rotate_left
                    · show Act.put _ (some 47) _ = _
                      simp only [Act.put, List.setIfInBounds_toArray, List.set_cons_zero, List.set_cons_succ, i64_w, i32_w]
                      rfl
                    refine pure_ (i := 15) (N := some 48) (v := ?_) (a' := ?_) #[true, true, true, true, true, true, true, true, true, true, true, true, true, true, true, true] rfl rfl (any_of HT_.out (by kernel_rfl)) (fun _ _ _ h => h) (Or.inl ⟨by rfl, ?_⟩) ?_ ?_
                    rotate_left
                    · intro w'
                      go_simp
                      with_reducible rfl
                    rotate_left
                    · simp only [Act.put, List.setIfInBounds_toArray, List.set_cons_zero, List.set_cons_succ, i64_w, i32_w]
                      rfl
                    refine done_ (done_of HT_.out (by kernel_rfl)) ?_
                    try go_wp2
                    go_roundg k2
                    case measure => have := HJ3.out; have := HK2.out; omega
                    case rel => exact ⟨(wrap64 (x7_2 + 1)), (by first | rfl | (simp; done) | (simp [*]; done)), H', ⟨by have := HJ3.out; have := HK2.out; omega⟩, ⟨by repeat (first | (with_reducible first | exact HB.out | apply below_alloc | apply pw_below_drewN | apply below_drew1) | exact HB.out)⟩⟩
                  · replace c24 := Bool.eq_false_iff.mpr c24
                    subst c24
                    have H1 : (none) = some r := by rw [if_neg (show ¬ (false = true) by decide)] at H; exact H
                    clear H
                    have H := H1
                    clear H1
                    exact absurd H (by simp)
                · rw [if_neg c20] at H
                  exact absurd H (by simp)
              · rw [if_neg c19] at H
                have c19b0 : decide (x7_2 < (l1.length : Int)) = false := decide_eq_false c19
                clear c19
                replace H := Option.bind_eq_some_iff.mp H
                obtain ⟨t370, A300, H⟩ := H
                replace H : (some t370) = some r := H
                have A30 := Aside0.mk A300
                clear A300
                obtain rfl := Option.some.inj H
                go_wp2_with (first | ((with_reducible refine gate_callee (f := 10) rfl ?_); refine goesL_ (some 49) rfl rfl Try.func10 (by kernel_rfl) rfl #[] rfl (by (try simp only [List.map_toArray, List.map_cons, List.map_nil]); first | done | rfl | (simp only [List.length_drop, List.length_take]; rfl)) ?_; (with_reducible refine (batonlaw04_live.calls k2  t370 _ A30.out).mono ?_); rintro e w31 ⟨rfl, hb⟩; refine ⟨_, rfl, ?_⟩; have n0_ := Aside0.mk (below_step (by repeat (first | (with_reducible first | exact HB.out | apply below_alloc | apply pw_below_drewN | apply below_drew1) | exact HB.out)) hb); clear HB; have HB := n0_; clear n0_; (try clear hb); (try clear hb2); (try clear hk); (try clear hi)))
                go_ret
                exact ⟨by first | rfl | (simp [errW_none, errW_some] <;> rfl) | (simp [*, errW_none, errW_some] <;> rfl), by repeat (first | (with_reducible first | exact HB.out | apply below_alloc | apply pw_below_drewN | apply below_drew1) | exact HB.out)⟩
        · replace c14 := Bool.eq_false_iff.mpr c14
          subst c14
          have H1 : (none) = some r := by rw [if_neg (show ¬ (false = true) by decide)] at H; exact H
          clear H
          have H := H1
          clear H1
          exact absurd H (by simp)

end Go.Proofs.Ytldblgcbmhkmaaa.PM
