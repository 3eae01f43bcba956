-- made by a program of this session (wip/tools/myprint.py over the kit's print) out of the translation; Lean checks it
import Derived.Test.YtfdfilgohcbgfaaPM0
import Derived.Test.YtfdfilgohcbgfaaPM3
import Derived.Test.YtfdfilgohcbgfaaPM9
import Derived.Test.YtfdfilgohcbgfaaPM11
import Derived.Test.YtfdfilgohcbgfaaPM12
namespace Go.Proofs.Ytfdfilgohcbgfaa.PM
open Go.RowKit Go.Proofs.YtfdfilgohcbgfaaW.PrintWords Go.Proofs.YtfdfilgohcbgfaaW.PrintLast Go.Proofs.YtfdfilgohcbgfaaW.PrintMore
attribute [local go_sem] max2_int min2_int max_two min_two max_three min_three max_four min_four   -- for this text's walks alone
set_option linter.unusedVariables false
set_option linter.unusedSimpArgs false

/-! ### batonlaw12_BagMay: function 5 -/
mutual
def batonlaw12_BagMay.j0 : Nat → List (S31) → List (S31) → Int → Bool → Option (Bool)
  | 0, _, _, _, _ => none
  | k + 1, x0, x1, x2, x23 => if x23 = true then ((batonlaw12_live.f k).bind fun t274 => (some t274)) else ((bag_Put.f x0 x1).bind fun bt275 => ((bag_Take.f x0 x2).bind fun bt279 => ((bag_Copy.f k x0 x2).bind fun bt287 => ((bag_May.f bt275.1).bind fun t291 => (if t291 = true then ((bag_May.f bt279.2.2.2.1).bind fun t292 => (if t292 = true then ((bag_May.f bt287.1).bind fun t293 => (batonlaw12_BagMay.j1 k x0 x1 x2 bt275.1 bt275.2 bt279.2.2.2.1 bt279.2.2.2.2 bt287.1 bt287.2 (!t293))) else (batonlaw12_BagMay.j1 k x0 x1 x2 bt275.1 bt275.2 bt279.2.2.2.1 bt279.2.2.2.2 bt287.1 bt287.2 true))) else (batonlaw12_BagMay.j1 k x0 x1 x2 bt275.1 bt275.2 bt279.2.2.2.1 bt279.2.2.2.2 bt287.1 bt287.2 true))))))
def batonlaw12_BagMay.j1 : Nat → List (S31) → List (S31) → Int → List (S31) → Int → List (S31) → Int → List (S31) → Int → Bool → Option (Bool)
  | 0, _, _, _, _, _, _, _, _, _, _ => none
  | k + 1, x0, x1, x2, x7, x8, x10, x11, x12, x13, x56 => if x56 = true then (none) else (if x8 = 0 then (if x11 = 0 then (if x13 = 0 then (if x2 ≥ 0 then (if ((x11 == 0) == (decide (x2 < (x0.length : Int)))) = true then (if ((x13 == 5) == (!(decide (x2 < (x0.length : Int))))) = true then (if (x7.length : Int) = (wrap64 ((x0.length : Int) + (x1.length : Int))) then ((batonlaw12_live.f k).bind fun t294 => (some t294)) else (none)) else (none)) else (none)) else (if ((x11 == 0) == false) = true then (if ((x13 == 5) == (!false)) = true then (if (x7.length : Int) = (wrap64 ((x0.length : Int) + (x1.length : Int))) then ((batonlaw12_live.f k).bind fun t295 => (some t295)) else (none)) else (none)) else (none))) else ((batonref12_Same.f k x12 x0).bind fun t296 => (if t296 = true then (if x2 ≥ 0 then (if ((x11 == 0) == (decide (x2 < (x0.length : Int)))) = true then (if ((x13 == 5) == (!(decide (x2 < (x0.length : Int))))) = true then (if (x7.length : Int) = (wrap64 ((x0.length : Int) + (x1.length : Int))) then ((batonlaw12_live.f k).bind fun t297 => (some t297)) else (none)) else (none)) else (none)) else (if ((x11 == 0) == false) = true then (if ((x13 == 5) == (!false)) = true then (if (x7.length : Int) = (wrap64 ((x0.length : Int) + (x1.length : Int))) then ((batonlaw12_live.f k).bind fun t298 => (some t298)) else (none)) else (none)) else (none))) else (none)))) else ((batonref12_Same.f k x10 x0).bind fun t299 => (if t299 = true then (if x13 = 0 then (if x2 ≥ 0 then (if ((x11 == 0) == (decide (x2 < (x0.length : Int)))) = true then (if ((x13 == 5) == (!(decide (x2 < (x0.length : Int))))) = true then (if (x7.length : Int) = (wrap64 ((x0.length : Int) + (x1.length : Int))) then ((batonlaw12_live.f k).bind fun t300 => (some t300)) else (none)) else (none)) else (none)) else (if ((x11 == 0) == false) = true then (if ((x13 == 5) == (!false)) = true then (if (x7.length : Int) = (wrap64 ((x0.length : Int) + (x1.length : Int))) then ((batonlaw12_live.f k).bind fun t301 => (some t301)) else (none)) else (none)) else (none))) else ((batonref12_Same.f k x12 x0).bind fun t302 => (if t302 = true then (if x2 ≥ 0 then (if ((x11 == 0) == (decide (x2 < (x0.length : Int)))) = true then (if ((x13 == 5) == (!(decide (x2 < (x0.length : Int))))) = true then (if (x7.length : Int) = (wrap64 ((x0.length : Int) + (x1.length : Int))) then ((batonlaw12_live.f k).bind fun t303 => (some t303)) else (none)) else (none)) else (none)) else (if ((x11 == 0) == false) = true then (if ((x13 == 5) == (!false)) = true then (if (x7.length : Int) = (wrap64 ((x0.length : Int) + (x1.length : Int))) then ((batonlaw12_live.f k).bind fun t304 => (some t304)) else (none)) else (none)) else (none))) else (none)))) else (none)))) else ((batonref12_Same.f k x7 x0).bind fun t305 => (if t305 = true then (if x11 = 0 then (if x13 = 0 then (if x2 ≥ 0 then (if ((x11 == 0) == (decide (x2 < (x0.length : Int)))) = true then (if ((x13 == 5) == (!(decide (x2 < (x0.length : Int))))) = true then ((batonlaw12_live.f k).bind fun t306 => (some t306)) else (none)) else (none)) else (if ((x11 == 0) == false) = true then (if ((x13 == 5) == (!false)) = true then ((batonlaw12_live.f k).bind fun t307 => (some t307)) else (none)) else (none))) else ((batonref12_Same.f k x12 x0).bind fun t308 => (if t308 = true then (if x2 ≥ 0 then (if ((x11 == 0) == (decide (x2 < (x0.length : Int)))) = true then (if ((x13 == 5) == (!(decide (x2 < (x0.length : Int))))) = true then ((batonlaw12_live.f k).bind fun t309 => (some t309)) else (none)) else (none)) else (if ((x11 == 0) == false) = true then (if ((x13 == 5) == (!false)) = true then ((batonlaw12_live.f k).bind fun t310 => (some t310)) else (none)) else (none))) else (none)))) else ((batonref12_Same.f k x10 x0).bind fun t311 => (if t311 = true then (if x13 = 0 then (if x2 ≥ 0 then (if ((x11 == 0) == (decide (x2 < (x0.length : Int)))) = true then (if ((x13 == 5) == (!(decide (x2 < (x0.length : Int))))) = true then ((batonlaw12_live.f k).bind fun t312 => (some t312)) else (none)) else (none)) else (if ((x11 == 0) == false) = true then (if ((x13 == 5) == (!false)) = true then ((batonlaw12_live.f k).bind fun t313 => (some t313)) else (none)) else (none))) else ((batonref12_Same.f k x12 x0).bind fun t314 => (if t314 = true then (if x2 ≥ 0 then (if ((x11 == 0) == (decide (x2 < (x0.length : Int)))) = true then (if ((x13 == 5) == (!(decide (x2 < (x0.length : Int))))) = true then ((batonlaw12_live.f k).bind fun t315 => (some t315)) else (none)) else (none)) else (if ((x11 == 0) == false) = true then (if ((x13 == 5) == (!false)) = true then ((batonlaw12_live.f k).bind fun t316 => (some t316)) else (none)) else (none))) else (none)))) else (none)))) else (none))))
end
def batonlaw12_BagMay.f (k : Nat) (l0 : List (S31)) (l1 : List (S31)) (a2 : Int) : Option (Bool) := (batonlaw12_few.f l0 l1).bind fun t272 => (if t272 = true then ((bag_May.f l0).bind fun t273 => (batonlaw12_BagMay.j0 k l0 l1 a2 (!t273))) else (batonlaw12_BagMay.j0 k l0 l1 a2 true))
theorem batonlaw12_BagMay.mono_l : ∀ k, (∀ y0 y1 y2 y3, LeO (batonlaw12_BagMay.j0 k y0 y1 y2 y3) (batonlaw12_BagMay.j0 (k + 1) y0 y1 y2 y3)) ∧ (∀ y0 y1 y2 y3 y4 y5 y6 y7 y8 y9, LeO (batonlaw12_BagMay.j1 k y0 y1 y2 y3 y4 y5 y6 y7 y8 y9) (batonlaw12_BagMay.j1 (k + 1) y0 y1 y2 y3 y4 y5 y6 y7 y8 y9))
  | 0 => ⟨fun _ _ _ _ r h => by simp [batonlaw12_BagMay.j0] at h, fun _ _ _ _ _ _ _ _ _ _ r h => by simp [batonlaw12_BagMay.j1] at h⟩
  | k + 1 => by
    obtain ⟨ih0, ih1⟩ := batonlaw12_BagMay.mono_l k
    refine ⟨?_, ?_⟩
    · intro y0 y1 y2 y3
      unfold batonlaw12_BagMay.j0
      repeat' first
      | (with_reducible exact ih0 _ _ _ _)
      | (with_reducible exact ih1 _ _ _ _ _ _ _ _ _ _)
      | (with_reducible exact bag_Copy.mono _ _ _)
      | (with_reducible exact batonlaw12_live.mono _)
      | (with_reducible exact batonref12_Same.mono _ _ _)
      | (with_reducible exact LeO.refl _)
      | (with_reducible exact LeO.none _)
      | (with_reducible refine LeO.ite ?_ ?_)
      | (with_reducible refine LeO.bind ?_ (fun _ => ?_))
      | exact ih0 _ _ _ _
      | exact ih1 _ _ _ _ _ _ _ _ _ _
      | exact bag_Copy.mono _ _ _
      | exact batonlaw12_live.mono _
      | exact batonref12_Same.mono _ _ _
      | exact LeO.none _
      | refine LeO.ite ?_ ?_
      | refine LeO.bind ?_ (fun _ => ?_)
    · intro y0 y1 y2 y3 y4 y5 y6 y7 y8 y9
      unfold batonlaw12_BagMay.j1
      repeat' first
      | (with_reducible exact ih0 _ _ _ _)
      | (with_reducible exact ih1 _ _ _ _ _ _ _ _ _ _)
      | (with_reducible exact bag_Copy.mono _ _ _)
      | (with_reducible exact batonlaw12_live.mono _)
      | (with_reducible exact batonref12_Same.mono _ _ _)
      | (with_reducible exact LeO.refl _)
      | (with_reducible exact LeO.none _)
      | (with_reducible refine LeO.ite ?_ ?_)
      | (with_reducible refine LeO.bind ?_ (fun _ => ?_))
      | exact ih0 _ _ _ _
      | exact ih1 _ _ _ _ _ _ _ _ _ _
      | exact bag_Copy.mono _ _ _
      | exact batonlaw12_live.mono _
      | exact batonref12_Same.mono _ _ _
      | exact LeO.none _
      | refine LeO.ite ?_ ?_
      | refine LeO.bind ?_ (fun _ => ?_)
theorem batonlaw12_BagMay.mono : ∀ a0 a1 a2 k, LeO (batonlaw12_BagMay.f k a0 a1 a2) (batonlaw12_BagMay.f (k + 1) a0 a1 a2) := by
  intro a0 a1 a2 k
  obtain ⟨ih0, ih1⟩ := batonlaw12_BagMay.mono_l k
  unfold batonlaw12_BagMay.f
  repeat' first
      | (with_reducible exact ih0 _ _ _ _)
      | (with_reducible exact ih1 _ _ _ _ _ _ _ _ _ _)
      | (with_reducible exact bag_Copy.mono _ _ _)
      | (with_reducible exact batonlaw12_live.mono _)
      | (with_reducible exact batonref12_Same.mono _ _ _)
      | (with_reducible exact LeO.refl _)
      | (with_reducible exact LeO.none _)
      | (with_reducible refine LeO.ite ?_ ?_)
      | (with_reducible refine LeO.bind ?_ (fun _ => ?_))
      | exact ih0 _ _ _ _
      | exact ih1 _ _ _ _ _ _ _ _ _ _
      | exact bag_Copy.mono _ _ _
      | exact batonlaw12_live.mono _
      | exact batonref12_Same.mono _ _ _
      | exact LeO.none _
      | refine LeO.ite ?_ ?_
      | refine LeO.bind ?_ (fun _ => ?_)
set_option maxHeartbeats 8000000 in
set_option maxRecDepth 100000 in
theorem batonlaw12_BagMay.calls (k : Nat) (A0 : Option Addr) (c0 : Nat) (l0 : List (S31)) (A1 : Option Addr) (c1 : Nat) (l1 : List (S31)) (a2 : Int) (r : Bool) (w : World) (hr0 : Kd.C k31 w A0 l0.length l0) (hc0 : l0.length ≤ c0) (hr1 : Kd.C k31 w A1 l1.length l1) (hc1 : l1.length ≤ c1) (h : batonlaw12_BagMay.f k l0 l1 a2 = some r) :
    Calls Try.prog 5 #[.slice A0 l0.length c0, .slice A1 l1.length c1, .int .i64 a2] w fun e w' => e = .returned (.bool r) ∧ Below w.heap.size w w' := by
  have hu31 := Try.underlying31
  have HR0 := Aside0.mk hr0
  have HC0 := Aside0.mk hc0
  clear hr0 hc0
  have HR1 := Aside0.mk hr1
  have HC1 := Aside0.mk hc1
  clear hr1 hc1
  have HB := Aside0.mk (Below.refl w.heap.size w)
  have H : ((batonlaw12_few.f l0 l1).bind fun t272 => (if t272 = true then ((bag_May.f l0).bind fun t273 => (batonlaw12_BagMay.j0 k l0 l1 a2 (!t273))) else (batonlaw12_BagMay.j0 k l0 l1 a2 true))) = some r := h
  clear h
  have HC4 := Aside0.mk H
  clear H
  go_enter Try.func5, Try.ntmps5
  go_upto_region 1 with (fail)
  go_cut [23] (fun v23 wc => ∃ (kq : Nat) (x23_3 : Bool), v23 = .bool x23_3 ∧ Aside0 (batonlaw12_BagMay.j0 kq l0 l1 a2 x23_3 = some r) ∧ Aside0 (kq ≤ k) ∧ Aside0 (Below w.heap.size w wc))
  case first =>
    have H := HC4.out
    clear HC4
    replace H := Option.bind_eq_some_iff.mp H
    obtain ⟨t272, A50, H⟩ := H
    replace H : (if t272 = true then ((bag_May.f l0).bind fun t273 => (batonlaw12_BagMay.j0 k l0 l1 a2 (!t273))) else (batonlaw12_BagMay.j0 k l0 l1 a2 true)) = some r := H
    have A5 := Aside0.mk A50
    clear A50
    by_cases c6 : t272 = true
    · subst c6
      have H1 : ((bag_May.f l0).bind fun t273 => (batonlaw12_BagMay.j0 k l0 l1 a2 (!t273))) = some r := by rw [if_pos rfl] at H; exact H
      clear H
      have H := H1
      clear H1
      replace H := Option.bind_eq_some_iff.mp H
      obtain ⟨t273, A70, H⟩ := H
      replace H : (batonlaw12_BagMay.j0 k l0 l1 a2 (!t273)) = some r := H
      have A7 := Aside0.mk A70
      clear A70
      have H' := Aside0.mk H
      clear H
      go_wp2_with (first | ((with_reducible refine gate_callee (f := 9) rfl ?_); refine goesL_ (some 17) rfl rfl Try.func9 (by kernel_rfl) rfl #[.slice A0 l0.length c0, .slice A1 l1.length c1] rfl (by (try simp only [List.map_toArray, List.map_cons, List.map_nil]); first | done | rfl | (simp only [List.length_drop, List.length_take]; rfl)) ?_; (with_reducible refine (batonlaw12_few.calls _ _ l0 _ _ l1 true _ ?side1 ?side2 ?side3 ?side4 A5.out).mono ?_); (case side1 => repeat (first | exact (Kd.C_below HR0.out HB.out) | (with_reducible refine Kd.C_alloc ?_ _) | (with_reducible refine Kd.C_drewN ?_ _) | (with_reducible refine Kd.C_drew ?_))); (case side2 => exact HC0.out); (case side3 => repeat (first | exact (Kd.C_below HR1.out HB.out) | (with_reducible refine Kd.C_alloc ?_ _) | (with_reducible refine Kd.C_drewN ?_ _) | (with_reducible refine Kd.C_drew ?_))); (case side4 => exact HC1.out); rintro e w' ⟨rfl, ⟨nd, rfl⟩⟩; refine ⟨_, rfl, ?_⟩) | (go_at_call 13; (with_reducible refine (bag_May.calls _ _ l0 t273 _ ?side1 ?side2 A7.out).mono ?_); (case side1 => repeat (first | exact (Kd.C_below HR0.out (by repeat (first | (with_reducible first | exact HB.out | apply below_alloc | apply pw_below_drewN | apply below_drew1) | exact HB.out))) | (with_reducible refine Kd.C_alloc ?_ _) | (with_reducible refine Kd.C_drewN ?_ _) | (with_reducible refine Kd.C_drew ?_))); (case side2 => exact HC0.out); rintro e w8 ⟨rfl, hb⟩; have n0_ := Aside0.mk (below_step (by repeat (first | (with_reducible first | exact HB.out | apply below_alloc | apply pw_below_drewN | apply below_drew1) | exact HB.out)) hb); clear HB; have HB := n0_; clear n0_; (try clear hb); (try clear hb2); (try clear hk); (try clear hi)))
      go_meet
      case rel => exact ⟨_, (!t273), (by first | rfl | (simp; done) | (simp [*]; done)), H', ⟨by first | omega | exact Nat.le_refl _⟩, ⟨by repeat (first | (with_reducible first | exact HB.out | apply below_alloc | apply pw_below_drewN | apply below_drew1) | exact HB.out)⟩⟩
    · replace c6 := Bool.eq_false_iff.mpr c6
      subst c6
      have H1 : (batonlaw12_BagMay.j0 k l0 l1 a2 true) = some r := by rw [if_neg (show ¬ (false = true) by decide)] at H; exact H
      clear H
      have H := H1
      clear H1
      have H' := Aside0.mk H
      clear H
      go_wp2_with (first | ((with_reducible refine gate_callee (f := 9) rfl ?_); refine goesL_ (some 17) rfl rfl Try.func9 (by kernel_rfl) rfl #[.slice A0 l0.length c0, .slice A1 l1.length c1] rfl (by (try simp only [List.map_toArray, List.map_cons, List.map_nil]); first | done | rfl | (simp only [List.length_drop, List.length_take]; rfl)) ?_; (with_reducible refine (batonlaw12_few.calls _ _ l0 _ _ l1 false _ ?side1 ?side2 ?side3 ?side4 A5.out).mono ?_); (case side1 => repeat (first | exact (Kd.C_below HR0.out HB.out) | (with_reducible refine Kd.C_alloc ?_ _) | (with_reducible refine Kd.C_drewN ?_ _) | (with_reducible refine Kd.C_drew ?_))); (case side2 => exact HC0.out); (case side3 => repeat (first | exact (Kd.C_below HR1.out HB.out) | (with_reducible refine Kd.C_alloc ?_ _) | (with_reducible refine Kd.C_drewN ?_ _) | (with_reducible refine Kd.C_drew ?_))); (case side4 => exact HC1.out); rintro e w' ⟨rfl, ⟨nd, rfl⟩⟩; refine ⟨_, rfl, ?_⟩))
      go_meet
      case rel => exact ⟨_, (true), (by first | rfl | (simp; done) | (simp [*]; done)), H', ⟨by first | omega | exact Nat.le_refl _⟩, ⟨by repeat (first | (with_reducible first | exact HB.out | apply below_alloc | apply pw_below_drewN | apply below_drew1) | exact HB.out)⟩⟩
  case rest =>
    clear HC4
    try clear c1
    try clear p2
    try clear c5
    try clear c6
    obtain ⟨kq, x23_3, rfl, HA, HJ3, HB⟩ := hcut
    cases kq with
    | zero => exact absurd HA.out (by simp [batonlaw12_BagMay.j0])
    | succ kj3 =>
      have H := HA.out
      clear HA
      simp only [batonlaw12_BagMay.j0] at H
      by_cases c9 : x23_3 = true
      · subst c9
        have H1 : ((batonlaw12_live.f kj3).bind fun t274 => (some t274)) = some r := by rw [if_pos rfl] at H; exact H
        clear H
        have H := H1
        clear H1
        replace H := Option.bind_eq_some_iff.mp H
        obtain ⟨t274, A100, H⟩ := H
        replace H : (some t274) = some r := H
        have A10 := Aside0.mk A100
        clear A100
        obtain rfl := Option.some.inj H
        go_wp2_with (first | ((with_reducible refine gate_callee (f := 10) rfl ?_); refine goesL_ (some 24) rfl rfl Try.func10 (by kernel_rfl) rfl #[] rfl (by (try simp only [List.map_toArray, List.map_cons, List.map_nil]); first | done | rfl | (simp only [List.length_drop, List.length_take]; rfl)) ?_; (with_reducible refine (batonlaw12_live.calls kj3  t274 _ A10.out).mono ?_); rintro e w11 ⟨rfl, hb⟩; refine ⟨_, rfl, ?_⟩; have n0_ := Aside0.mk (below_step (by repeat (first | (with_reducible first | exact HB.out | apply below_alloc | apply pw_below_drewN | apply below_drew1) | exact HB.out)) hb); clear HB; have HB := n0_; clear n0_; (try clear hb); (try clear hb2); (try clear hk); (try clear hi)))
        all_goals (go_ret; exact ⟨by first | rfl | (simp [errW_none, errW_some] <;> rfl) | (simp [*, errW_none, errW_some] <;> rfl) | (exfalso; simp_all <;> omega), by repeat (first | (with_reducible first | exact HB.out | apply below_alloc | apply pw_below_drewN | apply below_drew1) | exact HB.out)⟩)
      · replace c9 := Bool.eq_false_iff.mpr c9
        subst c9
        have H1 : ((bag_Put.f l0 l1).bind fun bt275 => ((bag_Take.f l0 a2).bind fun bt279 => ((bag_Copy.f kj3 l0 a2).bind fun bt287 => ((bag_May.f bt275.1).bind fun t291 => (if t291 = true then ((bag_May.f bt279.2.2.2.1).bind fun t292 => (if t292 = true then ((bag_May.f bt287.1).bind fun t293 => (batonlaw12_BagMay.j1 kj3 l0 l1 a2 bt275.1 bt275.2 bt279.2.2.2.1 bt279.2.2.2.2 bt287.1 bt287.2 (!t293))) else (batonlaw12_BagMay.j1 kj3 l0 l1 a2 bt275.1 bt275.2 bt279.2.2.2.1 bt279.2.2.2.2 bt287.1 bt287.2 true))) else (batonlaw12_BagMay.j1 kj3 l0 l1 a2 bt275.1 bt275.2 bt279.2.2.2.1 bt279.2.2.2.2 bt287.1 bt287.2 true)))))) = some r := by rw [if_neg (show ¬ (false = true) by decide)] at H; exact H
        clear H
        have H := H1
        clear H1
        replace H := Option.bind_eq_some_iff.mp H
        obtain ⟨⟨t275, t278⟩, A120, H⟩ := H
        replace H : ((bag_Take.f l0 a2).bind fun bt279 => ((bag_Copy.f kj3 l0 a2).bind fun bt287 => ((bag_May.f t275).bind fun t291 => (if t291 = true then ((bag_May.f bt279.2.2.2.1).bind fun t292 => (if t292 = true then ((bag_May.f bt287.1).bind fun t293 => (batonlaw12_BagMay.j1 kj3 l0 l1 a2 t275 t278 bt279.2.2.2.1 bt279.2.2.2.2 bt287.1 bt287.2 (!t293))) else (batonlaw12_BagMay.j1 kj3 l0 l1 a2 t275 t278 bt279.2.2.2.1 bt279.2.2.2.2 bt287.1 bt287.2 true))) else (batonlaw12_BagMay.j1 kj3 l0 l1 a2 t275 t278 bt279.2.2.2.1 bt279.2.2.2.2 bt287.1 bt287.2 true))))) = some r := H
        have A12 := Aside0.mk A120
        clear A120
        replace H := Option.bind_eq_some_iff.mp H
        obtain ⟨⟨t279, t280, t281, t282, t285⟩, A130, H⟩ := H
        replace H : ((bag_Copy.f kj3 l0 a2).bind fun bt287 => ((bag_May.f t275).bind fun t291 => (if t291 = true then ((bag_May.f t282).bind fun t292 => (if t292 = true then ((bag_May.f bt287.1).bind fun t293 => (batonlaw12_BagMay.j1 kj3 l0 l1 a2 t275 t278 t282 t285 bt287.1 bt287.2 (!t293))) else (batonlaw12_BagMay.j1 kj3 l0 l1 a2 t275 t278 t282 t285 bt287.1 bt287.2 true))) else (batonlaw12_BagMay.j1 kj3 l0 l1 a2 t275 t278 t282 t285 bt287.1 bt287.2 true)))) = some r := H
        have A13 := Aside0.mk A130
        clear A130
        replace H := Option.bind_eq_some_iff.mp H
        obtain ⟨⟨t287, t290⟩, A140, H⟩ := H
        replace H : ((bag_May.f t275).bind fun t291 => (if t291 = true then ((bag_May.f t282).bind fun t292 => (if t292 = true then ((bag_May.f t287).bind fun t293 => (batonlaw12_BagMay.j1 kj3 l0 l1 a2 t275 t278 t282 t285 t287 t290 (!t293))) else (batonlaw12_BagMay.j1 kj3 l0 l1 a2 t275 t278 t282 t285 t287 t290 true))) else (batonlaw12_BagMay.j1 kj3 l0 l1 a2 t275 t278 t282 t285 t287 t290 true))) = some r := H
        have A14 := Aside0.mk A140
        clear A140
        have HC15 := Aside0.mk H
        clear H
        go_upto_region 6 with (first | ((with_reducible refine gate_callee (f := 11) rfl ?_); refine goesL_ (some 28) rfl rfl Try.func11 (by kernel_rfl) rfl #[.slice A0 l0.length c0, .slice A1 l1.length c1] rfl (by (try simp only [List.map_toArray, List.map_cons, List.map_nil]); first | done | rfl | (simp only [List.length_drop, List.length_take]; rfl)) ?_; (with_reducible refine (bag_Put.calls (fun k_ => k_ < w.heap.size) _ _ l0 (fun k_ => k_ < w.heap.size) _ _ l1 t275 t278 _ ?side1 ?side2 A12.out).mono ?_); (case side1 => exact Kd.V_mk HC0.out (Kd.F_below (Kd.C_F k31_heap HR0.out) (by repeat (first | (with_reducible first | exact HB.out | apply below_alloc | apply pw_below_drewN | apply below_drew1) | exact HB.out)))); (case side2 => exact Kd.V_mk HC1.out (Kd.F_below (Kd.C_F k31_heap HR1.out) (by repeat (first | (with_reducible first | exact HB.out | apply below_alloc | apply pw_below_drewN | apply below_drew1) | exact HB.out)))); rintro e w16 ⟨v276, rfl, ho0, hb⟩; refine ⟨_, rfl, ?_⟩; have n0_ := Aside0.mk (Kd.V_lower (Kd.V_mono (ok' := fun k_ => True) ho0 (fun k_ hk_ => trivial)) (below_size (by repeat (first | (with_reducible first | exact HB.out | apply below_alloc | apply pw_below_drewN | apply below_drew1) | exact HB.out)))); have n1_ := Aside0.mk (below_step (by repeat (first | (with_reducible first | exact HB.out | apply below_alloc | apply pw_below_drewN | apply below_drew1) | exact HB.out)) hb); clear HB; have HO277 := n0_; have HB := n1_; clear n0_ n1_; (try clear hb); (try clear hb2); (try clear hk); (try clear hi); (try clear ho0)) | ((with_reducible refine gate_callee (f := 16) rfl ?_); refine goesL_ (some 34) rfl rfl Try.func16 (by kernel_rfl) rfl #[.slice A0 l0.length c0, .int .i64 a2] rfl (by (try simp only [List.map_toArray, List.map_cons, List.map_nil]); first | done | rfl | (simp only [List.length_drop, List.length_take]; rfl)) ?_; (with_reducible refine (bag_Take.calls (fun k_ => k_ < w.heap.size) _ _ l0 a2 t279 t280 t281 t282 t285 _ ?side1 A13.out).mono ?_); (case side1 => exact Kd.V_mk HC0.out (Kd.F_below (Kd.C_F k31_heap HR0.out) (by repeat (first | (with_reducible first | exact HB.out | apply below_alloc | apply pw_below_drewN | apply below_drew1) | exact HB.out)))); rintro e w17 ⟨v283, rfl, ho0, hb⟩; refine ⟨_, rfl, ?_⟩; have n0_ := Aside0.mk (Kd.V_below (by (with_reducible repeat (first | apply Kd.V_alloc | apply Kd.V_drewN | apply Kd.V_drew)); exact HO277.out) hb); have n1_ := Aside0.mk (Kd.V_lower (Kd.V_mono (ok' := fun k_ => True) ho0 (fun k_ hk_ => trivial)) (below_size (by repeat (first | (with_reducible first | exact HB.out | apply below_alloc | apply pw_below_drewN | apply below_drew1) | exact HB.out)))); have n2_ := Aside0.mk (below_step (by repeat (first | (with_reducible first | exact HB.out | apply below_alloc | apply pw_below_drewN | apply below_drew1) | exact HB.out)) hb); clear HO277; clear HB; have HO277 := n0_; have HO284 := n1_; have HB := n2_; clear n0_ n1_ n2_; (try clear hb); (try clear hb2); (try clear hk); (try clear hi); (try clear ho0)) | ((with_reducible refine gate_dst (N := 9) rfl ?_); (try (refine gate_guard (by rfl) ?_; dsimp only)); refine box_event ?hg (N := 9) ?hd (cs := #[.int .i64 0, .int .i64 0, .string (⟨#[]⟩ : ByteArray)]) (t := 31) ?hr ?_; (case hd => rfl); (case hg => rfl); (case hr => first | (go_simp; done) | (go_simp; rfl)); intro gb286 hg w18 hbox hb; have n0_ := Aside0.mk (Kd.V_below (Kd.V_elderB (by (with_reducible repeat (first | apply Kd.V_alloc | apply Kd.V_drewN | apply Kd.V_drew)); exact HO277.out) gb286 (Nat.le_of_eq hg.symm)) hb); have n1_ := Aside0.mk (Kd.V_below (Kd.V_elderB (by (with_reducible repeat (first | apply Kd.V_alloc | apply Kd.V_drewN | apply Kd.V_drew)); exact HO284.out) gb286 (Nat.le_of_eq hg.symm)) hb); have n2_ := Aside0.mk (below_step (by repeat (first | (with_reducible first | exact HB.out | apply below_alloc | apply pw_below_drewN | apply below_drew1) | exact HB.out)) hb); have n3_ := Aside0.mk (hbox); have n4_ := Aside0.mk ((by rw [hg]; exact (below_size (by repeat (first | (with_reducible first | exact HB.out | apply below_alloc | apply pw_below_drewN | apply below_drew1) | exact HB.out))) : w.heap.size ≤ gb286)); have n5_ := Aside0.mk ((by rw [hg]; exact (below_size (by repeat (first | (with_reducible first | exact HB.out | apply below_alloc | apply pw_below_drewN | apply below_drew1) | exact HB.out))) : w.heap.size ≤ gb286)); clear HO277; clear HO284; clear HB; have HO277 := n0_; have HO284 := n1_; have HB := n2_; have BK286 := n3_; have GW286 := n4_; have GE286 := n5_; clear n0_ n1_ n2_ n3_ n4_ n5_; clear hb hbox hg; have hcz19_0 : w18.cell? ⟨gb286, 0, none⟩ = some (.int .i64 0) := (blk_cell BK286.out 0).trans rfl; have hcz19_1 : w18.cell? ⟨gb286, 1, none⟩ = some (.int .i64 0) := (blk_cell BK286.out 1).trans rfl; have hcz19_2 : w18.cell? ⟨gb286, 2, none⟩ = some (.string (⟨#[]⟩ : ByteArray)) := (blk_cell BK286.out 2).trans rfl; have hfz19_0 := blk_frozen BK286.out 0; have hfz19_1 := blk_frozen BK286.out 1; have hfz19_2 := blk_frozen BK286.out 2) | ((with_reducible refine gate_store (t := 31) (p := 9) rfl ?_); refine store_event (t := 31) (p := 9) (v := ?vo_w20) (w1 := (((w18.setCell ⟨gb286, 0, none⟩ (.int .i64 t279)).setCell ⟨gb286, 1, none⟩ (.int .i64 t280)).setCell ⟨gb286, 2, none⟩ (.string t281))) ?hg ?ho ?hn ?hr ?_; (case ho => rfl); (case hg => rfl); (case hn => rfl); (case hr => first | (go_simp; done) | (go_simp; rfl)); intro w20 hw; have n0_ : Aside0 (Kd.V k31 31 w20 w.heap.size (fun k_ => k_ ≠ gb286) v276 t275) := ⟨(by rw [hw]; exact (by (with_reducible repeat (first | apply Kd.V_alloc | apply Kd.V_drewN | apply Kd.V_drew)); exact Kd.V_mono (Kd.V_far (p := ⟨gb286, 2, none⟩) (Kd.V_far (p := ⟨gb286, 1, none⟩) (Kd.V_far (p := ⟨gb286, 0, none⟩) (Kd.V_mono HO277.out (fun k_ hk => (⟨hk, hk.2⟩ : _ ∧ k_ ≠ gb286))) (fun _ hk => hk.2) (.int .i64 t279)) (fun _ hk => hk.2) (.int .i64 t280)) (fun _ hk => hk.2) (.string t281)) (fun _ hk => hk.1.2)))⟩; have n1_ : Aside0 (Kd.V k31 31 w20 w.heap.size (fun k_ => k_ ≠ gb286) v283 t282) := ⟨(by rw [hw]; exact (by (with_reducible repeat (first | apply Kd.V_alloc | apply Kd.V_drewN | apply Kd.V_drew)); exact Kd.V_mono (Kd.V_far (p := ⟨gb286, 2, none⟩) (Kd.V_far (p := ⟨gb286, 1, none⟩) (Kd.V_far (p := ⟨gb286, 0, none⟩) (Kd.V_mono HO284.out (fun k_ hk => (⟨hk, hk.2⟩ : _ ∧ k_ ≠ gb286))) (fun _ hk => hk.2) (.int .i64 t279)) (fun _ hk => hk.2) (.int .i64 t280)) (fun _ hk => hk.2) (.string t281)) (fun _ hk => hk.1.2)))⟩; have n2_ : Aside0 (w20.heap[gb286]? = some (.cells #[.int .i64 t279, .int .i64 t280, .string t281] 31 (0, 0))) := ⟨(by rw [hw]; exact (by (with_reducible repeat (first | refine blk_drewN ?_ _ | refine blk_drew ?_ | refine blk_alloc ?_ _)); refine blk_put (cs := #[.int .i64 t279, .int .i64 t280, .string (⟨#[]⟩ : ByteArray)]) ?_ 2 _ rfl; (with_reducible repeat (first | refine blk_drewN ?_ _ | refine blk_drew ?_ | refine blk_alloc ?_ _)); refine blk_put (cs := #[.int .i64 t279, .int .i64 0, .string (⟨#[]⟩ : ByteArray)]) ?_ 1 _ rfl; (with_reducible repeat (first | refine blk_drewN ?_ _ | refine blk_drew ?_ | refine blk_alloc ?_ _)); refine blk_put (cs := #[.int .i64 0, .int .i64 0, .string (⟨#[]⟩ : ByteArray)]) ?_ 0 _ rfl; (with_reducible repeat (first | refine blk_drewN ?_ _ | refine blk_drew ?_ | refine blk_alloc ?_ _)); exact BK286.out))⟩; have n3_ : Aside0 (Below w.heap.size w w20) := ⟨(by rw [hw]; exact (by repeat (first | (with_reducible first | exact HB.out | apply below_alloc | apply pw_below_drewN | apply below_drew1 | refine below_set ?_ GE286.out) | exact HB.out)))⟩; clear hw; clear HO277; clear HO284; clear BK286; clear HB; have HO277 := n0_; have HO284 := n1_; have BK286 := n2_; have HB := n3_; clear n0_ n1_ n2_ n3_) | ((with_reducible refine gate_callee (f := 18) rfl ?_); refine goesL_ (some 41) rfl rfl Try.func18 (by kernel_rfl) rfl #[.slice A0 l0.length c0, .int .i64 a2] rfl (by (try simp only [List.map_toArray, List.map_cons, List.map_nil]); first | done | rfl | (simp only [List.length_drop, List.length_take]; rfl)) ?_; (with_reducible refine (bag_Copy.calls kj3 (fun k_ => k_ < w.heap.size) _ _ l0 a2 t287 t290 _ ?side1 A14.out).mono ?_); (case side1 => exact Kd.V_mk HC0.out (Kd.F_below (Kd.C_F k31_heap HR0.out) (by repeat (first | (with_reducible first | exact HB.out | apply below_alloc | apply pw_below_drewN | apply below_drew1 | refine below_set ?_ GE286.out) | exact HB.out)))); rintro e w21 ⟨v288, rfl, ho0, hb⟩; refine ⟨_, rfl, ?_⟩; have n0_ := Aside0.mk (Kd.V_below (by (with_reducible repeat (first | apply Kd.V_alloc | apply Kd.V_drewN | apply Kd.V_drew)); exact HO277.out) hb); have n1_ := Aside0.mk (Kd.V_below (by (with_reducible repeat (first | apply Kd.V_alloc | apply Kd.V_drewN | apply Kd.V_drew)); exact HO284.out) hb); have n2_ := Aside0.mk (Kd.V_lower (Kd.V_mono (ok' := fun k_ => k_ ≠ gb286) ho0 (fun k_ hk_ => Or.elim hk_ (fun hs_ => fun e_ => Nat.not_le.2 hs_ (by rw [e_]; exact GW286.out)) (fun hn_ => (Kd.freshB (g := gb286) (o := .cells #[.int .i64 t279, .int .i64 t280, .string t281] 31 (0, 0)) (by (with_reducible repeat (first | refine blk_drewN ?_ _ | refine blk_drew ?_ | refine blk_alloc ?_ _)); exact BK286.out) k_ hn_)))) (below_size (by repeat (first | (with_reducible first | exact HB.out | apply below_alloc | apply pw_below_drewN | apply below_drew1 | refine below_set ?_ GE286.out) | exact HB.out)))); have n3_ := Aside0.mk (blk_below (g := gb286) (o := .cells #[.int .i64 t279, .int .i64 t280, .string t281] 31 (0, 0)) (by (with_reducible repeat (first | refine blk_drewN ?_ _ | refine blk_drew ?_ | refine blk_alloc ?_ _)); exact BK286.out) hb); have n4_ := Aside0.mk (below_step (by repeat (first | (with_reducible first | exact HB.out | apply below_alloc | apply pw_below_drewN | apply below_drew1 | refine below_set ?_ GE286.out) | exact HB.out)) hb); clear HO277; clear HO284; clear BK286; clear HB; have HO277 := n0_; have HO284 := n1_; have HO289 := n2_; have BK286 := n3_; have HB := n4_; clear n0_ n1_ n2_ n3_ n4_; (try clear hb); (try clear hb2); (try clear hk); (try clear hi); (try clear ho0)))
        (try simp only [Act.put, List.setIfInBounds_toArray, List.set_cons_zero, List.set_cons_succ])
        go_cut [56] (fun v56 wc => ∃ (kq : Nat) (x56_14 : Bool), v56 = .bool x56_14 ∧ Aside0 (batonlaw12_BagMay.j1 kq l0 l1 a2 t275 t278 t282 t285 t287 t290 x56_14 = some r) ∧ Aside0 (kq ≤ kj3) ∧ Aside0 (Kd.V k31 31 wc w.heap.size (fun k_ => k_ ≠ gb286) v276 t275) ∧ Aside0 (Kd.V k31 31 wc w.heap.size (fun k_ => k_ ≠ gb286) v283 t282) ∧ Aside0 (Kd.V k31 31 wc w.heap.size (fun k_ => k_ ≠ gb286) v288 t287) ∧ Aside0 (wc.heap[gb286]? = some (.cells #[.int .i64 t279, .int .i64 t280, .string t281] 31 (0, 0))) ∧ Aside0 (Below w.heap.size w wc))
        case first =>
          have H := HC15.out
          clear HC15
          replace H := Option.bind_eq_some_iff.mp H
          obtain ⟨t291, A220, H⟩ := H
          replace H : (if t291 = true then ((bag_May.f t282).bind fun t292 => (if t292 = true then ((bag_May.f t287).bind fun t293 => (batonlaw12_BagMay.j1 kj3 l0 l1 a2 t275 t278 t282 t285 t287 t290 (!t293))) else (batonlaw12_BagMay.j1 kj3 l0 l1 a2 t275 t278 t282 t285 t287 t290 true))) else (batonlaw12_BagMay.j1 kj3 l0 l1 a2 t275 t278 t282 t285 t287 t290 true)) = some r := H
          have A22 := Aside0.mk A220
          clear A220
          by_cases c23 : t291 = true
          · subst c23
            have H1 : ((bag_May.f t282).bind fun t292 => (if t292 = true then ((bag_May.f t287).bind fun t293 => (batonlaw12_BagMay.j1 kj3 l0 l1 a2 t275 t278 t282 t285 t287 t290 (!t293))) else (batonlaw12_BagMay.j1 kj3 l0 l1 a2 t275 t278 t282 t285 t287 t290 true))) = some r := by rw [if_pos rfl] at H; exact H
            clear H
            have H := H1
            clear H1
            replace H := Option.bind_eq_some_iff.mp H
            obtain ⟨t292, A240, H⟩ := H
            replace H : (if t292 = true then ((bag_May.f t287).bind fun t293 => (batonlaw12_BagMay.j1 kj3 l0 l1 a2 t275 t278 t282 t285 t287 t290 (!t293))) else (batonlaw12_BagMay.j1 kj3 l0 l1 a2 t275 t278 t282 t285 t287 t290 true)) = some r := H
            have A24 := Aside0.mk A240
            clear A240
            by_cases c25 : t292 = true
            · subst c25
              have H1 : ((bag_May.f t287).bind fun t293 => (batonlaw12_BagMay.j1 kj3 l0 l1 a2 t275 t278 t282 t285 t287 t290 (!t293))) = some r := by rw [if_pos rfl] at H; exact H
              clear H
              have H := H1
              clear H1
              replace H := Option.bind_eq_some_iff.mp H
              obtain ⟨t293, A260, H⟩ := H
              replace H : (batonlaw12_BagMay.j1 kj3 l0 l1 a2 t275 t278 t282 t285 t287 t290 (!t293)) = some r := H
              have A26 := Aside0.mk A260
              clear A260
              have H' := Aside0.mk H
              clear H
              obtain ⟨Ao27, co27, eo27⟩ := Kd.V_slice HO277.out
              subst eo27
              go_wp2_with (first | ((with_reducible refine gate_callee (f := 13) rfl ?_); refine goesL_ (some 45) rfl rfl Try.func13 (by kernel_rfl) rfl #[.slice Ao27 t275.length co27] rfl (by (try simp only [List.map_toArray, List.map_cons, List.map_nil]); first | done | rfl | (simp only [List.length_drop, List.length_take]; rfl)) ?_; (with_reducible refine (bag_May.calls _ _ t275 true _ ?side1 ?side2 A22.out).mono ?_); (case side1 => repeat (first | exact (Kd.V_reads' HO277.out).2.2 | (with_reducible refine Kd.C_alloc ?_ _) | (with_reducible refine Kd.C_drewN ?_ _) | (with_reducible refine Kd.C_drew ?_))); (case side2 => exact (Kd.V_reads' HO277.out).2.1); rintro e w28 ⟨rfl, hb⟩; refine ⟨_, rfl, ?_⟩; have n0_ := Aside0.mk (Kd.V_below (by (with_reducible repeat (first | apply Kd.V_alloc | apply Kd.V_drewN | apply Kd.V_drew)); exact HO277.out) hb); have n1_ := Aside0.mk (Kd.V_below (by (with_reducible repeat (first | apply Kd.V_alloc | apply Kd.V_drewN | apply Kd.V_drew)); exact HO284.out) hb); have n2_ := Aside0.mk (Kd.V_below (by (with_reducible repeat (first | apply Kd.V_alloc | apply Kd.V_drewN | apply Kd.V_drew)); exact HO289.out) hb); have n3_ := Aside0.mk (blk_below (g := gb286) (o := .cells #[.int .i64 t279, .int .i64 t280, .string t281] 31 (0, 0)) (by (with_reducible repeat (first | refine blk_drewN ?_ _ | refine blk_drew ?_ | refine blk_alloc ?_ _)); exact BK286.out) hb); have n4_ := Aside0.mk (below_step (by repeat (first | (with_reducible first | exact HB.out | apply below_alloc | apply pw_below_drewN | apply below_drew1 | refine below_set ?_ GE286.out) | exact HB.out)) hb); clear HO277; clear HO284; clear HO289; clear BK286; clear HB; have HO277 := n0_; have HO284 := n1_; have HO289 := n2_; have BK286 := n3_; have HB := n4_; clear n0_ n1_ n2_ n3_ n4_; (try clear hb); (try clear hb2); (try clear hk); (try clear hi); obtain ⟨Ao29, co29, eo29⟩ := Kd.V_slice HO284.out; subst eo29) | (go_at_call 13; (with_reducible refine (bag_May.calls _ _ t282 true _ ?side1 ?side2 A24.out).mono ?_); (case side1 => repeat (first | exact (Kd.V_reads' HO284.out).2.2 | (with_reducible refine Kd.C_alloc ?_ _) | (with_reducible refine Kd.C_drewN ?_ _) | (with_reducible refine Kd.C_drew ?_))); (case side2 => exact (Kd.V_reads' HO284.out).2.1); rintro e w30 ⟨rfl, hb⟩; have n0_ := Aside0.mk (Kd.V_below (by (with_reducible repeat (first | apply Kd.V_alloc | apply Kd.V_drewN | apply Kd.V_drew)); exact HO277.out) hb); have n1_ := Aside0.mk (Kd.V_below (by (with_reducible repeat (first | apply Kd.V_alloc | apply Kd.V_drewN | apply Kd.V_drew)); exact HO284.out) hb); have n2_ := Aside0.mk (Kd.V_below (by (with_reducible repeat (first | apply Kd.V_alloc | apply Kd.V_drewN | apply Kd.V_drew)); exact HO289.out) hb); have n3_ := Aside0.mk (blk_below (g := gb286) (o := .cells #[.int .i64 t279, .int .i64 t280, .string t281] 31 (0, 0)) (by (with_reducible repeat (first | refine blk_drewN ?_ _ | refine blk_drew ?_ | refine blk_alloc ?_ _)); exact BK286.out) hb); have n4_ := Aside0.mk (below_step (by repeat (first | (with_reducible first | exact HB.out | apply below_alloc | apply pw_below_drewN | apply below_drew1 | refine below_set ?_ GE286.out) | exact HB.out)) hb); clear HO277; clear HO284; clear HO289; clear BK286; clear HB; have HO277 := n0_; have HO284 := n1_; have HO289 := n2_; have BK286 := n3_; have HB := n4_; clear n0_ n1_ n2_ n3_ n4_; (try clear hb); (try clear hb2); (try clear hk); (try clear hi); obtain ⟨Ao31, co31, eo31⟩ := Kd.V_slice HO289.out; subst eo31) | (go_at_call 13; (with_reducible refine (bag_May.calls _ _ t287 t293 _ ?side1 ?side2 A26.out).mono ?_); (case side1 => repeat (first | exact (Kd.V_reads' HO289.out).2.2 | (with_reducible refine Kd.C_alloc ?_ _) | (with_reducible refine Kd.C_drewN ?_ _) | (with_reducible refine Kd.C_drew ?_))); (case side2 => exact (Kd.V_reads' HO289.out).2.1); rintro e w32 ⟨rfl, hb⟩; have n0_ := Aside0.mk (Kd.V_below (by (with_reducible repeat (first | apply Kd.V_alloc | apply Kd.V_drewN | apply Kd.V_drew)); exact HO277.out) hb); have n1_ := Aside0.mk (Kd.V_below (by (with_reducible repeat (first | apply Kd.V_alloc | apply Kd.V_drewN | apply Kd.V_drew)); exact HO284.out) hb); have n2_ := Aside0.mk (Kd.V_below (by (with_reducible repeat (first | apply Kd.V_alloc | apply Kd.V_drewN | apply Kd.V_drew)); exact HO289.out) hb); have n3_ := Aside0.mk (blk_below (g := gb286) (o := .cells #[.int .i64 t279, .int .i64 t280, .string t281] 31 (0, 0)) (by (with_reducible repeat (first | refine blk_drewN ?_ _ | refine blk_drew ?_ | refine blk_alloc ?_ _)); exact BK286.out) hb); have n4_ := Aside0.mk (below_step (by repeat (first | (with_reducible first | exact HB.out | apply below_alloc | apply pw_below_drewN | apply below_drew1 | refine below_set ?_ GE286.out) | exact HB.out)) hb); clear HO277; clear HO284; clear HO289; clear BK286; clear HB; have HO277 := n0_; have HO284 := n1_; have HO289 := n2_; have BK286 := n3_; have HB := n4_; clear n0_ n1_ n2_ n3_ n4_; (try clear hb); (try clear hb2); (try clear hk); (try clear hi)))
              go_meet
              case rel => exact ⟨_, (!t293), (by first | rfl | (simp; done) | (simp [*]; done)), H', ⟨by have := HJ3.out; first | omega | exact Nat.le_refl _⟩, ⟨by (with_reducible repeat (first | apply Kd.V_alloc | apply Kd.V_drewN | apply Kd.V_drew)); exact HO277.out⟩, ⟨by (with_reducible repeat (first | apply Kd.V_alloc | apply Kd.V_drewN | apply Kd.V_drew)); exact HO284.out⟩, ⟨by (with_reducible repeat (first | apply Kd.V_alloc | apply Kd.V_drewN | apply Kd.V_drew)); exact HO289.out⟩, ⟨by (with_reducible repeat (first | refine blk_drewN ?_ _ | refine blk_drew ?_ | refine blk_alloc ?_ _)); exact BK286.out⟩, ⟨by repeat (first | (with_reducible first | exact HB.out | apply below_alloc | apply pw_below_drewN | apply below_drew1 | refine below_set ?_ GE286.out) | exact HB.out)⟩⟩
            · replace c25 := Bool.eq_false_iff.mpr c25
              subst c25
              have H1 : (batonlaw12_BagMay.j1 kj3 l0 l1 a2 t275 t278 t282 t285 t287 t290 true) = some r := by rw [if_neg (show ¬ (false = true) by decide)] at H; exact H
              clear H
              have H := H1
              clear H1
              have H' := Aside0.mk H
              clear H
              obtain ⟨Ao33, co33, eo33⟩ := Kd.V_slice HO277.out
              subst eo33
              go_wp2_with (first | ((with_reducible refine gate_callee (f := 13) rfl ?_); refine goesL_ (some 45) rfl rfl Try.func13 (by kernel_rfl) rfl #[.slice Ao33 t275.length co33] rfl (by (try simp only [List.map_toArray, List.map_cons, List.map_nil]); first | done | rfl | (simp only [List.length_drop, List.length_take]; rfl)) ?_; (with_reducible refine (bag_May.calls _ _ t275 true _ ?side1 ?side2 A22.out).mono ?_); (case side1 => repeat (first | exact (Kd.V_reads' HO277.out).2.2 | (with_reducible refine Kd.C_alloc ?_ _) | (with_reducible refine Kd.C_drewN ?_ _) | (with_reducible refine Kd.C_drew ?_))); (case side2 => exact (Kd.V_reads' HO277.out).2.1); rintro e w34 ⟨rfl, hb⟩; refine ⟨_, rfl, ?_⟩; have n0_ := Aside0.mk (Kd.V_below (by (with_reducible repeat (first | apply Kd.V_alloc | apply Kd.V_drewN | apply Kd.V_drew)); exact HO277.out) hb); have n1_ := Aside0.mk (Kd.V_below (by (with_reducible repeat (first | apply Kd.V_alloc | apply Kd.V_drewN | apply Kd.V_drew)); exact HO284.out) hb); have n2_ := Aside0.mk (Kd.V_below (by (with_reducible repeat (first | apply Kd.V_alloc | apply Kd.V_drewN | apply Kd.V_drew)); exact HO289.out) hb); have n3_ := Aside0.mk (blk_below (g := gb286) (o := .cells #[.int .i64 t279, .int .i64 t280, .string t281] 31 (0, 0)) (by (with_reducible repeat (first | refine blk_drewN ?_ _ | refine blk_drew ?_ | refine blk_alloc ?_ _)); exact BK286.out) hb); have n4_ := Aside0.mk (below_step (by repeat (first | (with_reducible first | exact HB.out | apply below_alloc | apply pw_below_drewN | apply below_drew1 | refine below_set ?_ GE286.out) | exact HB.out)) hb); clear HO277; clear HO284; clear HO289; clear BK286; clear HB; have HO277 := n0_; have HO284 := n1_; have HO289 := n2_; have BK286 := n3_; have HB := n4_; clear n0_ n1_ n2_ n3_ n4_; (try clear hb); (try clear hb2); (try clear hk); (try clear hi); obtain ⟨Ao35, co35, eo35⟩ := Kd.V_slice HO284.out; subst eo35) | (go_at_call 13; (with_reducible refine (bag_May.calls _ _ t282 false _ ?side1 ?side2 A24.out).mono ?_); (case side1 => repeat (first | exact (Kd.V_reads' HO284.out).2.2 | (with_reducible refine Kd.C_alloc ?_ _) | (with_reducible refine Kd.C_drewN ?_ _) | (with_reducible refine Kd.C_drew ?_))); (case side2 => exact (Kd.V_reads' HO284.out).2.1); rintro e w36 ⟨rfl, hb⟩; have n0_ := Aside0.mk (Kd.V_below (by (with_reducible repeat (first | apply Kd.V_alloc | apply Kd.V_drewN | apply Kd.V_drew)); exact HO277.out) hb); have n1_ := Aside0.mk (Kd.V_below (by (with_reducible repeat (first | apply Kd.V_alloc | apply Kd.V_drewN | apply Kd.V_drew)); exact HO284.out) hb); have n2_ := Aside0.mk (Kd.V_below (by (with_reducible repeat (first | apply Kd.V_alloc | apply Kd.V_drewN | apply Kd.V_drew)); exact HO289.out) hb); have n3_ := Aside0.mk (blk_below (g := gb286) (o := .cells #[.int .i64 t279, .int .i64 t280, .string t281] 31 (0, 0)) (by (with_reducible repeat (first | refine blk_drewN ?_ _ | refine blk_drew ?_ | refine blk_alloc ?_ _)); exact BK286.out) hb); have n4_ := Aside0.mk (below_step (by repeat (first | (with_reducible first | exact HB.out | apply below_alloc | apply pw_below_drewN | apply below_drew1 | refine below_set ?_ GE286.out) | exact HB.out)) hb); clear HO277; clear HO284; clear HO289; clear BK286; clear HB; have HO277 := n0_; have HO284 := n1_; have HO289 := n2_; have BK286 := n3_; have HB := n4_; clear n0_ n1_ n2_ n3_ n4_; (try clear hb); (try clear hb2); (try clear hk); (try clear hi)))
              go_meet
              case rel => exact ⟨_, (true), (by first | rfl | (simp; done) | (simp [*]; done)), H', ⟨by have := HJ3.out; first | omega | exact Nat.le_refl _⟩, ⟨by (with_reducible repeat (first | apply Kd.V_alloc | apply Kd.V_drewN | apply Kd.V_drew)); exact HO277.out⟩, ⟨by (with_reducible repeat (first | apply Kd.V_alloc | apply Kd.V_drewN | apply Kd.V_drew)); exact HO284.out⟩, ⟨by (with_reducible repeat (first | apply Kd.V_alloc | apply Kd.V_drewN | apply Kd.V_drew)); exact HO289.out⟩, ⟨by (with_reducible repeat (first | refine blk_drewN ?_ _ | refine blk_drew ?_ | refine blk_alloc ?_ _)); exact BK286.out⟩, ⟨by repeat (first | (with_reducible first | exact HB.out | apply below_alloc | apply pw_below_drewN | apply below_drew1 | refine below_set ?_ GE286.out) | exact HB.out)⟩⟩
          · replace c23 := Bool.eq_false_iff.mpr c23
            subst c23
            have H1 : (batonlaw12_BagMay.j1 kj3 l0 l1 a2 t275 t278 t282 t285 t287 t290 true) = some r := by rw [if_neg (show ¬ (false = true) by decide)] at H; exact H
            clear H
            have H := H1
            clear H1
            have H' := Aside0.mk H
            clear H
            obtain ⟨Ao37, co37, eo37⟩ := Kd.V_slice HO277.out
            subst eo37
            go_wp2_with (first | ((with_reducible refine gate_callee (f := 13) rfl ?_); refine goesL_ (some 45) rfl rfl Try.func13 (by kernel_rfl) rfl #[.slice Ao37 t275.length co37] rfl (by (try simp only [List.map_toArray, List.map_cons, List.map_nil]); first | done | rfl | (simp only [List.length_drop, List.length_take]; rfl)) ?_; (with_reducible refine (bag_May.calls _ _ t275 false _ ?side1 ?side2 A22.out).mono ?_); (case side1 => repeat (first | exact (Kd.V_reads' HO277.out).2.2 | (with_reducible refine Kd.C_alloc ?_ _) | (with_reducible refine Kd.C_drewN ?_ _) | (with_reducible refine Kd.C_drew ?_))); (case side2 => exact (Kd.V_reads' HO277.out).2.1); rintro e w38 ⟨rfl, hb⟩; refine ⟨_, rfl, ?_⟩; have n0_ := Aside0.mk (Kd.V_below (by (with_reducible repeat (first | apply Kd.V_alloc | apply Kd.V_drewN | apply Kd.V_drew)); exact HO277.out) hb); have n1_ := Aside0.mk (Kd.V_below (by (with_reducible repeat (first | apply Kd.V_alloc | apply Kd.V_drewN | apply Kd.V_drew)); exact HO284.out) hb); have n2_ := Aside0.mk (Kd.V_below (by (with_reducible repeat (first | apply Kd.V_alloc | apply Kd.V_drewN | apply Kd.V_drew)); exact HO289.out) hb); have n3_ := Aside0.mk (blk_below (g := gb286) (o := .cells #[.int .i64 t279, .int .i64 t280, .string t281] 31 (0, 0)) (by (with_reducible repeat (first | refine blk_drewN ?_ _ | refine blk_drew ?_ | refine blk_alloc ?_ _)); exact BK286.out) hb); have n4_ := Aside0.mk (below_step (by repeat (first | (with_reducible first | exact HB.out | apply below_alloc | apply pw_below_drewN | apply below_drew1 | refine below_set ?_ GE286.out) | exact HB.out)) hb); clear HO277; clear HO284; clear HO289; clear BK286; clear HB; have HO277 := n0_; have HO284 := n1_; have HO289 := n2_; have BK286 := n3_; have HB := n4_; clear n0_ n1_ n2_ n3_ n4_; (try clear hb); (try clear hb2); (try clear hk); (try clear hi)))
            go_meet
            case rel => exact ⟨_, (true), (by first | rfl | (simp; done) | (simp [*]; done)), H', ⟨by have := HJ3.out; first | omega | exact Nat.le_refl _⟩, ⟨by (with_reducible repeat (first | apply Kd.V_alloc | apply Kd.V_drewN | apply Kd.V_drew)); exact HO277.out⟩, ⟨by (with_reducible repeat (first | apply Kd.V_alloc | apply Kd.V_drewN | apply Kd.V_drew)); exact HO284.out⟩, ⟨by (with_reducible repeat (first | apply Kd.V_alloc | apply Kd.V_drewN | apply Kd.V_drew)); exact HO289.out⟩, ⟨by (with_reducible repeat (first | refine blk_drewN ?_ _ | refine blk_drew ?_ | refine blk_alloc ?_ _)); exact BK286.out⟩, ⟨by repeat (first | (with_reducible first | exact HB.out | apply below_alloc | apply pw_below_drewN | apply below_drew1 | refine below_set ?_ GE286.out) | exact HB.out)⟩⟩
        case rest =>
          clear HC15
          try clear c1
          try clear c2
          try clear p2
          try clear c5
          try clear c6
          try clear c9
          try clear c10
          try clear c11
          try clear c13
          try clear c16
          try clear c18
          try clear c23
          try clear c25
          try clear hcz19_0
          try clear hcz19_1
          try clear hcz19_2
          try clear hfz19_0
          try clear hfz19_1
          try clear hfz19_2
          try clear p2
          obtain ⟨kq, x56_14, rfl, HA, HJ14, HO_7, HO_10, HO_12, BK286, HB⟩ := hcut
          cases kq with
          | zero => exact absurd HA.out (by simp [batonlaw12_BagMay.j1])
          | succ kj14 =>
            have H := HA.out
            clear HA
            simp only [batonlaw12_BagMay.j1] at H
            by_cases c39 : x56_14 = true
            · subst c39
              have H1 : (none) = some r := by rw [if_pos rfl] at H; exact H
              clear H
              have H := H1
              clear H1
              exact absurd H (by simp)
            · replace c39 := Bool.eq_false_iff.mpr c39
              subst c39
              have H1 : (if t278 = 0 then (if t285 = 0 then (if t290 = 0 then (if a2 ≥ 0 then (if ((t285 == 0) == (decide (a2 < (l0.length : Int)))) = true then (if ((t290 == 5) == (!(decide (a2 < (l0.length : Int))))) = true then (if (t275.length : Int) = (wrap64 ((l0.length : Int) + (l1.length : Int))) then ((batonlaw12_live.f kj14).bind fun t294 => (some t294)) else (none)) else (none)) else (none)) else (if ((t285 == 0) == false) = true then (if ((t290 == 5) == (!false)) = true then (if (t275.length : Int) = (wrap64 ((l0.length : Int) + (l1.length : Int))) then ((batonlaw12_live.f kj14).bind fun t295 => (some t295)) else (none)) else (none)) else (none))) else ((batonref12_Same.f kj14 t287 l0).bind fun t296 => (if t296 = true then (if a2 ≥ 0 then (if ((t285 == 0) == (decide (a2 < (l0.length : Int)))) = true then (if ((t290 == 5) == (!(decide (a2 < (l0.length : Int))))) = true then (if (t275.length : Int) = (wrap64 ((l0.length : Int) + (l1.length : Int))) then ((batonlaw12_live.f kj14).bind fun t297 => (some t297)) else (none)) else (none)) else (none)) else (if ((t285 == 0) == false) = true then (if ((t290 == 5) == (!false)) = true then (if (t275.length : Int) = (wrap64 ((l0.length : Int) + (l1.length : Int))) then ((batonlaw12_live.f kj14).bind fun t298 => (some t298)) else (none)) else (none)) else (none))) else (none)))) else ((batonref12_Same.f kj14 t282 l0).bind fun t299 => (if t299 = true then (if t290 = 0 then (if a2 ≥ 0 then (if ((t285 == 0) == (decide (a2 < (l0.length : Int)))) = true then (if ((t290 == 5) == (!(decide (a2 < (l0.length : Int))))) = true then (if (t275.length : Int) = (wrap64 ((l0.length : Int) + (l1.length : Int))) then ((batonlaw12_live.f kj14).bind fun t300 => (some t300)) else (none)) else (none)) else (none)) else (if ((t285 == 0) == false) = true then (if ((t290 == 5) == (!false)) = true then (if (t275.length : Int) = (wrap64 ((l0.length : Int) + (l1.length : Int))) then ((batonlaw12_live.f kj14).bind fun t301 => (some t301)) else (none)) else (none)) else (none))) else ((batonref12_Same.f kj14 t287 l0).bind fun t302 => (if t302 = true then (if a2 ≥ 0 then (if ((t285 == 0) == (decide (a2 < (l0.length : Int)))) = true then (if ((t290 == 5) == (!(decide (a2 < (l0.length : Int))))) = true then (if (t275.length : Int) = (wrap64 ((l0.length : Int) + (l1.length : Int))) then ((batonlaw12_live.f kj14).bind fun t303 => (some t303)) else (none)) else (none)) else (none)) else (if ((t285 == 0) == false) = true then (if ((t290 == 5) == (!false)) = true then (if (t275.length : Int) = (wrap64 ((l0.length : Int) + (l1.length : Int))) then ((batonlaw12_live.f kj14).bind fun t304 => (some t304)) else (none)) else (none)) else (none))) else (none)))) else (none)))) else ((batonref12_Same.f kj14 t275 l0).bind fun t305 => (if t305 = true then (if t285 = 0 then (if t290 = 0 then (if a2 ≥ 0 then (if ((t285 == 0) == (decide (a2 < (l0.length : Int)))) = true then (if ((t290 == 5) == (!(decide (a2 < (l0.length : Int))))) = true then ((batonlaw12_live.f kj14).bind fun t306 => (some t306)) else (none)) else (none)) else (if ((t285 == 0) == false) = true then (if ((t290 == 5) == (!false)) = true then ((batonlaw12_live.f kj14).bind fun t307 => (some t307)) else (none)) else (none))) else ((batonref12_Same.f kj14 t287 l0).bind fun t308 => (if t308 = true then (if a2 ≥ 0 then (if ((t285 == 0) == (decide (a2 < (l0.length : Int)))) = true then (if ((t290 == 5) == (!(decide (a2 < (l0.length : Int))))) = true then ((batonlaw12_live.f kj14).bind fun t309 => (some t309)) else (none)) else (none)) else (if ((t285 == 0) == false) = true then (if ((t290 == 5) == (!false)) = true then ((batonlaw12_live.f kj14).bind fun t310 => (some t310)) else (none)) else (none))) else (none)))) else ((batonref12_Same.f kj14 t282 l0).bind fun t311 => (if t311 = true then (if t290 = 0 then (if a2 ≥ 0 then (if ((t285 == 0) == (decide (a2 < (l0.length : Int)))) = true then (if ((t290 == 5) == (!(decide (a2 < (l0.length : Int))))) = true then ((batonlaw12_live.f kj14).bind fun t312 => (some t312)) else (none)) else (none)) else (if ((t285 == 0) == false) = true then (if ((t290 == 5) == (!false)) = true then ((batonlaw12_live.f kj14).bind fun t313 => (some t313)) else (none)) else (none))) else ((batonref12_Same.f kj14 t287 l0).bind fun t314 => (if t314 = true then (if a2 ≥ 0 then (if ((t285 == 0) == (decide (a2 < (l0.length : Int)))) = true then (if ((t290 == 5) == (!(decide (a2 < (l0.length : Int))))) = true then ((batonlaw12_live.f kj14).bind fun t315 => (some t315)) else (none)) else (none)) else (if ((t285 == 0) == false) = true then (if ((t290 == 5) == (!false)) = true then ((batonlaw12_live.f kj14).bind fun t316 => (some t316)) else (none)) else (none))) else (none)))) else (none)))) else (none)))) = some r := by rw [if_neg (show ¬ (false = true) by decide)] at H; exact H
              clear H
              have H := H1
              clear H1
              by_cases c40 : t278 = 0
              · rw [if_pos c40] at H
                have c40b0 : (t278 == 0) = true := beq_iff_eq.mpr c40
                have c40b1 : (t278 != 0) = false := bne_eq_false_iff_eq.mpr c40
                clear c40
                by_cases c41 : t285 = 0
                · rw [if_pos c41] at H
                  have c41b0 : (t285 == 0) = true := beq_iff_eq.mpr c41
                  have c41b1 : (t285 != 0) = false := bne_eq_false_iff_eq.mpr c41
                  clear c41
                  by_cases c42 : t290 = 0
                  · rw [if_pos c42] at H
                    have c42b0 : (t290 == 0) = true := beq_iff_eq.mpr c42
                    have c42b1 : (t290 != 0) = false := bne_eq_false_iff_eq.mpr c42
                    clear c42
                    by_cases c43 : a2 ≥ 0
                    · rw [if_pos c43] at H
                      have c43b0 : decide (0 ≤ a2) = true := decide_eq_true c43
                      clear c43
                      by_cases c44 : ((t285 == 0) == (decide (a2 < (l0.length : Int)))) = true
                      · rw [if_pos c44] at H
                        have c44b0 : ((t285 == 0) == (decide (a2 < (l0.length : Int)))) = true := c44
                        (try (have c44b1 : decide ((t285 == 0) = (decide (a2 < (l0.length : Int)))) = true := by simpa using c44))
                        (try (have c44b2 : ((t285 == 0) == (decide (a2 < (l0.length : Int)))) = true := by simpa using c44))
                        clear c44
                        by_cases c45 : ((t290 == 5) == (!(decide (a2 < (l0.length : Int))))) = true
                        · rw [if_pos c45] at H
                          have c45b0 : ((t290 == 5) == (!(decide (a2 < (l0.length : Int))))) = true := c45
                          (try (have c45b1 : decide ((t290 == 5) = (!(decide (a2 < (l0.length : Int))))) = true := by simpa using c45))
                          (try (have c45b2 : ((t290 == 5) == (!(decide (a2 < (l0.length : Int))))) = true := by simpa using c45))
                          clear c45
                          by_cases c46 : (t275.length : Int) = (wrap64 ((l0.length : Int) + (l1.length : Int)))
                          · rw [if_pos c46] at H
                            have c46b0 : ((t275.length : Int) == (wrap64 ((l0.length : Int) + (l1.length : Int)))) = true := beq_iff_eq.mpr c46
                            have c46b1 : ((t275.length : Int) != (wrap64 ((l0.length : Int) + (l1.length : Int)))) = false := bne_eq_false_iff_eq.mpr c46
                            clear c46
                            replace H := Option.bind_eq_some_iff.mp H
                            obtain ⟨t294, A470, H⟩ := H
                            replace H : (some t294) = some r := H
                            have A47 := Aside0.mk A470
                            clear A470
                            obtain rfl := Option.some.inj H
                            obtain ⟨Ao48, co48, eo48⟩ := Kd.V_slice HO_7.out
                            subst eo48
                            go_wp2_with (first | (go_at_call 10; (with_reducible refine (batonlaw12_live.calls kj14  t294 _ A47.out).mono ?_); rintro e w49 ⟨rfl, hb⟩; have n0_ := Aside0.mk (Kd.V_below (by (with_reducible repeat (first | apply Kd.V_alloc | apply Kd.V_drewN | apply Kd.V_drew)); exact HO_7.out) hb); have n1_ := Aside0.mk (Kd.V_below (by (with_reducible repeat (first | apply Kd.V_alloc | apply Kd.V_drewN | apply Kd.V_drew)); exact HO_10.out) hb); have n2_ := Aside0.mk (Kd.V_below (by (with_reducible repeat (first | apply Kd.V_alloc | apply Kd.V_drewN | apply Kd.V_drew)); exact HO_12.out) hb); have n3_ := Aside0.mk (blk_below (g := gb286) (o := .cells #[.int .i64 t279, .int .i64 t280, .string t281] 31 (0, 0)) (by (with_reducible repeat (first | refine blk_drewN ?_ _ | refine blk_drew ?_ | refine blk_alloc ?_ _)); exact BK286.out) hb); have n4_ := Aside0.mk (below_step (by repeat (first | (with_reducible first | exact HB.out | apply below_alloc | apply pw_below_drewN | apply below_drew1 | refine below_set ?_ GE286.out) | exact HB.out)) hb); clear HO_7; clear HO_10; clear HO_12; clear BK286; clear HB; have HO_7 := n0_; have HO_10 := n1_; have HO_12 := n2_; have BK286 := n3_; have HB := n4_; clear n0_ n1_ n2_ n3_ n4_; (try clear hb); (try clear hb2); (try clear hk); (try clear hi)))
                            all_goals (go_ret; exact ⟨by first | rfl | (simp [errW_none, errW_some] <;> rfl) | (simp [*, errW_none, errW_some] <;> rfl) | (exfalso; simp_all <;> omega), by repeat (first | (with_reducible first | exact HB.out | apply below_alloc | apply pw_below_drewN | apply below_drew1 | refine below_set ?_ GE286.out) | exact HB.out)⟩)
                          · rw [if_neg c46] at H
                            exact absurd H (by simp)
                        · rw [if_neg c45] at H
                          exact absurd H (by simp)
                      · rw [if_neg c44] at H
                        exact absurd H (by simp)
                    · rw [if_neg c43] at H
                      have c43b0 : decide (0 ≤ a2) = false := decide_eq_false c43
                      clear c43
                      by_cases c50 : ((t285 == 0) == false) = true
                      · rw [if_pos c50] at H
                        have c50b0 : ((t285 == 0) == false) = true := c50
                        (try (have c50b1 : decide ((t285 == 0) = false) = true := by simpa using c50))
                        (try (have c50b2 : ((t285 == 0) == false) = true := by simpa using c50))
                        clear c50
                        by_cases c51 : ((t290 == 5) == (!false)) = true
                        · rw [if_pos c51] at H
                          have c51b0 : ((t290 == 5) == (!false)) = true := c51
                          (try (have c51b1 : decide ((t290 == 5) = (!false)) = true := by simpa using c51))
                          (try (have c51b2 : ((t290 == 5) == (!false)) = true := by simpa using c51))
                          clear c51
                          by_cases c52 : (t275.length : Int) = (wrap64 ((l0.length : Int) + (l1.length : Int)))
                          · rw [if_pos c52] at H
                            have c52b0 : ((t275.length : Int) == (wrap64 ((l0.length : Int) + (l1.length : Int)))) = true := beq_iff_eq.mpr c52
                            have c52b1 : ((t275.length : Int) != (wrap64 ((l0.length : Int) + (l1.length : Int)))) = false := bne_eq_false_iff_eq.mpr c52
                            clear c52
                            replace H := Option.bind_eq_some_iff.mp H
                            obtain ⟨t295, A530, H⟩ := H
                            replace H : (some t295) = some r := H
                            have A53 := Aside0.mk A530
                            clear A530
                            obtain rfl := Option.some.inj H
                            obtain ⟨Ao54, co54, eo54⟩ := Kd.V_slice HO_7.out
                            subst eo54
                            go_wp2_with (first | (go_at_call 10; (with_reducible refine (batonlaw12_live.calls kj14  t295 _ A53.out).mono ?_); rintro e w55 ⟨rfl, hb⟩; have n0_ := Aside0.mk (Kd.V_below (by (with_reducible repeat (first | apply Kd.V_alloc | apply Kd.V_drewN | apply Kd.V_drew)); exact HO_7.out) hb); have n1_ := Aside0.mk (Kd.V_below (by (with_reducible repeat (first | apply Kd.V_alloc | apply Kd.V_drewN | apply Kd.V_drew)); exact HO_10.out) hb); have n2_ := Aside0.mk (Kd.V_below (by (with_reducible repeat (first | apply Kd.V_alloc | apply Kd.V_drewN | apply Kd.V_drew)); exact HO_12.out) hb); have n3_ := Aside0.mk (blk_below (g := gb286) (o := .cells #[.int .i64 t279, .int .i64 t280, .string t281] 31 (0, 0)) (by (with_reducible repeat (first | refine blk_drewN ?_ _ | refine blk_drew ?_ | refine blk_alloc ?_ _)); exact BK286.out) hb); have n4_ := Aside0.mk (below_step (by repeat (first | (with_reducible first | exact HB.out | apply below_alloc | apply pw_below_drewN | apply below_drew1 | refine below_set ?_ GE286.out) | exact HB.out)) hb); clear HO_7; clear HO_10; clear HO_12; clear BK286; clear HB; have HO_7 := n0_; have HO_10 := n1_; have HO_12 := n2_; have BK286 := n3_; have HB := n4_; clear n0_ n1_ n2_ n3_ n4_; (try clear hb); (try clear hb2); (try clear hk); (try clear hi)))
                            all_goals (go_ret; exact ⟨by first | rfl | (simp [errW_none, errW_some] <;> rfl) | (simp [*, errW_none, errW_some] <;> rfl) | (exfalso; simp_all <;> omega), by repeat (first | (with_reducible first | exact HB.out | apply below_alloc | apply pw_below_drewN | apply below_drew1 | refine below_set ?_ GE286.out) | exact HB.out)⟩)
                          · rw [if_neg c52] at H
                            exact absurd H (by simp)
                        · rw [if_neg c51] at H
                          exact absurd H (by simp)
                      · rw [if_neg c50] at H
                        exact absurd H (by simp)
                  · rw [if_neg c42] at H
                    have c42b0 : (t290 == 0) = false := beq_eq_false_iff_ne.mpr c42
                    have c42b1 : (t290 != 0) = true := bne_iff_ne.mpr c42
                    replace H := Option.bind_eq_some_iff.mp H
                    obtain ⟨t296, A560, H⟩ := H
                    replace H : (if t296 = true then (if a2 ≥ 0 then (if ((t285 == 0) == (decide (a2 < (l0.length : Int)))) = true then (if ((t290 == 5) == (!(decide (a2 < (l0.length : Int))))) = true then (if (t275.length : Int) = (wrap64 ((l0.length : Int) + (l1.length : Int))) then ((batonlaw12_live.f kj14).bind fun t297 => (some t297)) else (none)) else (none)) else (none)) else (if ((t285 == 0) == false) = true then (if ((t290 == 5) == (!false)) = true then (if (t275.length : Int) = (wrap64 ((l0.length : Int) + (l1.length : Int))) then ((batonlaw12_live.f kj14).bind fun t298 => (some t298)) else (none)) else (none)) else (none))) else (none)) = some r := H
                    have A56 := Aside0.mk A560
                    clear A560
                    by_cases c57 : t296 = true
                    · subst c57
                      have H1 : (if a2 ≥ 0 then (if ((t285 == 0) == (decide (a2 < (l0.length : Int)))) = true then (if ((t290 == 5) == (!(decide (a2 < (l0.length : Int))))) = true then (if (t275.length : Int) = (wrap64 ((l0.length : Int) + (l1.length : Int))) then ((batonlaw12_live.f kj14).bind fun t297 => (some t297)) else (none)) else (none)) else (none)) else (if ((t285 == 0) == false) = true then (if ((t290 == 5) == (!false)) = true then (if (t275.length : Int) = (wrap64 ((l0.length : Int) + (l1.length : Int))) then ((batonlaw12_live.f kj14).bind fun t298 => (some t298)) else (none)) else (none)) else (none))) = some r := by rw [if_pos rfl] at H; exact H
                      clear H
                      have H := H1
                      clear H1
                      by_cases c58 : a2 ≥ 0
                      · rw [if_pos c58] at H
                        have c58b0 : decide (0 ≤ a2) = true := decide_eq_true c58
                        clear c58
                        by_cases c59 : ((t285 == 0) == (decide (a2 < (l0.length : Int)))) = true
                        · rw [if_pos c59] at H
                          have c59b0 : ((t285 == 0) == (decide (a2 < (l0.length : Int)))) = true := c59
                          (try (have c59b1 : decide ((t285 == 0) = (decide (a2 < (l0.length : Int)))) = true := by simpa using c59))
                          (try (have c59b2 : ((t285 == 0) == (decide (a2 < (l0.length : Int)))) = true := by simpa using c59))
                          clear c59
                          by_cases c60 : ((t290 == 5) == (!(decide (a2 < (l0.length : Int))))) = true
                          · rw [if_pos c60] at H
                            have c60b0 : ((t290 == 5) == (!(decide (a2 < (l0.length : Int))))) = true := c60
                            (try (have c60b1 : decide ((t290 == 5) = (!(decide (a2 < (l0.length : Int))))) = true := by simpa using c60))
                            (try (have c60b2 : ((t290 == 5) == (!(decide (a2 < (l0.length : Int))))) = true := by simpa using c60))
                            clear c60
                            by_cases c61 : (t275.length : Int) = (wrap64 ((l0.length : Int) + (l1.length : Int)))
                            · rw [if_pos c61] at H
                              have c61b0 : ((t275.length : Int) == (wrap64 ((l0.length : Int) + (l1.length : Int)))) = true := beq_iff_eq.mpr c61
                              have c61b1 : ((t275.length : Int) != (wrap64 ((l0.length : Int) + (l1.length : Int)))) = false := bne_eq_false_iff_eq.mpr c61
                              clear c61
                              replace H := Option.bind_eq_some_iff.mp H
                              obtain ⟨t297, A620, H⟩ := H
                              replace H : (some t297) = some r := H
                              have A62 := Aside0.mk A620
                              clear A620
                              obtain rfl := Option.some.inj H
                              obtain ⟨Ao63, co63, eo63⟩ := Kd.V_slice HO_12.out
                              subst eo63
                              go_wp2_with (first | (go_at_call 15; (with_reducible refine (batonref12_Same.calls kj14 _ _ t287 _ _ l0 true _ ?side1 ?side2 ?side3 ?side4 A56.out).mono ?_); (case side1 => repeat (first | exact (Kd.V_reads' HO_12.out).2.2 | (with_reducible refine Kd.C_alloc ?_ _) | (with_reducible refine Kd.C_drewN ?_ _) | (with_reducible refine Kd.C_drew ?_))); (case side2 => exact (Kd.V_reads' HO_12.out).2.1); (case side3 => repeat (first | exact (Kd.C_below HR0.out HB.out) | (with_reducible refine Kd.C_alloc ?_ _) | (with_reducible refine Kd.C_drewN ?_ _) | (with_reducible refine Kd.C_drew ?_))); (case side4 => exact HC0.out); rintro e w' ⟨rfl, ⟨nd, rfl⟩⟩; obtain ⟨Ao64, co64, eo64⟩ := Kd.V_slice HO_7.out; subst eo64) | (go_at_call 10; (with_reducible refine (batonlaw12_live.calls kj14  t297 _ A62.out).mono ?_); rintro e w65 ⟨rfl, hb⟩; have n0_ := Aside0.mk (Kd.V_below (by (with_reducible repeat (first | apply Kd.V_alloc | apply Kd.V_drewN | apply Kd.V_drew)); exact HO_7.out) hb); have n1_ := Aside0.mk (Kd.V_below (by (with_reducible repeat (first | apply Kd.V_alloc | apply Kd.V_drewN | apply Kd.V_drew)); exact HO_10.out) hb); have n2_ := Aside0.mk (Kd.V_below (by (with_reducible repeat (first | apply Kd.V_alloc | apply Kd.V_drewN | apply Kd.V_drew)); exact HO_12.out) hb); have n3_ := Aside0.mk (blk_below (g := gb286) (o := .cells #[.int .i64 t279, .int .i64 t280, .string t281] 31 (0, 0)) (by (with_reducible repeat (first | refine blk_drewN ?_ _ | refine blk_drew ?_ | refine blk_alloc ?_ _)); exact BK286.out) hb); have n4_ := Aside0.mk (below_step (by repeat (first | (with_reducible first | exact HB.out | apply below_alloc | apply pw_below_drewN | apply below_drew1 | refine below_set ?_ GE286.out) | exact HB.out)) hb); clear HO_7; clear HO_10; clear HO_12; clear BK286; clear HB; have HO_7 := n0_; have HO_10 := n1_; have HO_12 := n2_; have BK286 := n3_; have HB := n4_; clear n0_ n1_ n2_ n3_ n4_; (try clear hb); (try clear hb2); (try clear hk); (try clear hi)))
                              all_goals (go_ret; exact ⟨by first | rfl | (simp [errW_none, errW_some] <;> rfl) | (simp [*, errW_none, errW_some] <;> rfl) | (exfalso; simp_all <;> omega), by repeat (first | (with_reducible first | exact HB.out | apply below_alloc | apply pw_below_drewN | apply below_drew1 | refine below_set ?_ GE286.out) | exact HB.out)⟩)
                            · rw [if_neg c61] at H
                              exact absurd H (by simp)
                          · rw [if_neg c60] at H
                            exact absurd H (by simp)
                        · rw [if_neg c59] at H
                          exact absurd H (by simp)
                      · rw [if_neg c58] at H
                        have c58b0 : decide (0 ≤ a2) = false := decide_eq_false c58
                        clear c58
                        by_cases c66 : ((t285 == 0) == false) = true
                        · rw [if_pos c66] at H
                          have c66b0 : ((t285 == 0) == false) = true := c66
                          (try (have c66b1 : decide ((t285 == 0) = false) = true := by simpa using c66))
                          (try (have c66b2 : ((t285 == 0) == false) = true := by simpa using c66))
                          clear c66
                          by_cases c67 : ((t290 == 5) == (!false)) = true
                          · rw [if_pos c67] at H
                            have c67b0 : ((t290 == 5) == (!false)) = true := c67
                            (try (have c67b1 : decide ((t290 == 5) = (!false)) = true := by simpa using c67))
                            (try (have c67b2 : ((t290 == 5) == (!false)) = true := by simpa using c67))
                            clear c67
                            by_cases c68 : (t275.length : Int) = (wrap64 ((l0.length : Int) + (l1.length : Int)))
                            · rw [if_pos c68] at H
                              have c68b0 : ((t275.length : Int) == (wrap64 ((l0.length : Int) + (l1.length : Int)))) = true := beq_iff_eq.mpr c68
                              have c68b1 : ((t275.length : Int) != (wrap64 ((l0.length : Int) + (l1.length : Int)))) = false := bne_eq_false_iff_eq.mpr c68
                              clear c68
                              replace H := Option.bind_eq_some_iff.mp H
                              obtain ⟨t298, A690, H⟩ := H
                              replace H : (some t298) = some r := H
                              have A69 := Aside0.mk A690
                              clear A690
                              obtain rfl := Option.some.inj H
                              obtain ⟨Ao70, co70, eo70⟩ := Kd.V_slice HO_12.out
                              subst eo70
                              go_wp2_with (first | (go_at_call 15; (with_reducible refine (batonref12_Same.calls kj14 _ _ t287 _ _ l0 true _ ?side1 ?side2 ?side3 ?side4 A56.out).mono ?_); (case side1 => repeat (first | exact (Kd.V_reads' HO_12.out).2.2 | (with_reducible refine Kd.C_alloc ?_ _) | (with_reducible refine Kd.C_drewN ?_ _) | (with_reducible refine Kd.C_drew ?_))); (case side2 => exact (Kd.V_reads' HO_12.out).2.1); (case side3 => repeat (first | exact (Kd.C_below HR0.out HB.out) | (with_reducible refine Kd.C_alloc ?_ _) | (with_reducible refine Kd.C_drewN ?_ _) | (with_reducible refine Kd.C_drew ?_))); (case side4 => exact HC0.out); rintro e w' ⟨rfl, ⟨nd, rfl⟩⟩; obtain ⟨Ao71, co71, eo71⟩ := Kd.V_slice HO_7.out; subst eo71) | (go_at_call 10; (with_reducible refine (batonlaw12_live.calls kj14  t298 _ A69.out).mono ?_); rintro e w72 ⟨rfl, hb⟩; have n0_ := Aside0.mk (Kd.V_below (by (with_reducible repeat (first | apply Kd.V_alloc | apply Kd.V_drewN | apply Kd.V_drew)); exact HO_7.out) hb); have n1_ := Aside0.mk (Kd.V_below (by (with_reducible repeat (first | apply Kd.V_alloc | apply Kd.V_drewN | apply Kd.V_drew)); exact HO_10.out) hb); have n2_ := Aside0.mk (Kd.V_below (by (with_reducible repeat (first | apply Kd.V_alloc | apply Kd.V_drewN | apply Kd.V_drew)); exact HO_12.out) hb); have n3_ := Aside0.mk (blk_below (g := gb286) (o := .cells #[.int .i64 t279, .int .i64 t280, .string t281] 31 (0, 0)) (by (with_reducible repeat (first | refine blk_drewN ?_ _ | refine blk_drew ?_ | refine blk_alloc ?_ _)); exact BK286.out) hb); have n4_ := Aside0.mk (below_step (by repeat (first | (with_reducible first | exact HB.out | apply below_alloc | apply pw_below_drewN | apply below_drew1 | refine below_set ?_ GE286.out) | exact HB.out)) hb); clear HO_7; clear HO_10; clear HO_12; clear BK286; clear HB; have HO_7 := n0_; have HO_10 := n1_; have HO_12 := n2_; have BK286 := n3_; have HB := n4_; clear n0_ n1_ n2_ n3_ n4_; (try clear hb); (try clear hb2); (try clear hk); (try clear hi)))
                              all_goals (go_ret; exact ⟨by first | rfl | (simp [errW_none, errW_some] <;> rfl) | (simp [*, errW_none, errW_some] <;> rfl) | (exfalso; simp_all <;> omega), by repeat (first | (with_reducible first | exact HB.out | apply below_alloc | apply pw_below_drewN | apply below_drew1 | refine below_set ?_ GE286.out) | exact HB.out)⟩)
                            · rw [if_neg c68] at H
                              exact absurd H (by simp)
                          · rw [if_neg c67] at H
                            exact absurd H (by simp)
                        · rw [if_neg c66] at H
                          exact absurd H (by simp)
                    · replace c57 := Bool.eq_false_iff.mpr c57
                      subst c57
                      have H1 : (none) = some r := by rw [if_neg (show ¬ (false = true) by decide)] at H; exact H
                      clear H
                      have H := H1
                      clear H1
                      exact absurd H (by simp)
                · rw [if_neg c41] at H
                  have c41b0 : (t285 == 0) = false := beq_eq_false_iff_ne.mpr c41
                  have c41b1 : (t285 != 0) = true := bne_iff_ne.mpr c41
                  replace H := Option.bind_eq_some_iff.mp H
                  obtain ⟨t299, A730, H⟩ := H
                  replace H : (if t299 = true then (if t290 = 0 then (if a2 ≥ 0 then (if ((t285 == 0) == (decide (a2 < (l0.length : Int)))) = true then (if ((t290 == 5) == (!(decide (a2 < (l0.length : Int))))) = true then (if (t275.length : Int) = (wrap64 ((l0.length : Int) + (l1.length : Int))) then ((batonlaw12_live.f kj14).bind fun t300 => (some t300)) else (none)) else (none)) else (none)) else (if ((t285 == 0) == false) = true then (if ((t290 == 5) == (!false)) = true then (if (t275.length : Int) = (wrap64 ((l0.length : Int) + (l1.length : Int))) then ((batonlaw12_live.f kj14).bind fun t301 => (some t301)) else (none)) else (none)) else (none))) else ((batonref12_Same.f kj14 t287 l0).bind fun t302 => (if t302 = true then (if a2 ≥ 0 then (if ((t285 == 0) == (decide (a2 < (l0.length : Int)))) = true then (if ((t290 == 5) == (!(decide (a2 < (l0.length : Int))))) = true then (if (t275.length : Int) = (wrap64 ((l0.length : Int) + (l1.length : Int))) then ((batonlaw12_live.f kj14).bind fun t303 => (some t303)) else (none)) else (none)) else (none)) else (if ((t285 == 0) == false) = true then (if ((t290 == 5) == (!false)) = true then (if (t275.length : Int) = (wrap64 ((l0.length : Int) + (l1.length : Int))) then ((batonlaw12_live.f kj14).bind fun t304 => (some t304)) else (none)) else (none)) else (none))) else (none)))) else (none)) = some r := H
                  have A73 := Aside0.mk A730
                  clear A730
                  by_cases c74 : t299 = true
                  · subst c74
                    have H1 : (if t290 = 0 then (if a2 ≥ 0 then (if ((t285 == 0) == (decide (a2 < (l0.length : Int)))) = true then (if ((t290 == 5) == (!(decide (a2 < (l0.length : Int))))) = true then (if (t275.length : Int) = (wrap64 ((l0.length : Int) + (l1.length : Int))) then ((batonlaw12_live.f kj14).bind fun t300 => (some t300)) else (none)) else (none)) else (none)) else (if ((t285 == 0) == false) = true then (if ((t290 == 5) == (!false)) = true then (if (t275.length : Int) = (wrap64 ((l0.length : Int) + (l1.length : Int))) then ((batonlaw12_live.f kj14).bind fun t301 => (some t301)) else (none)) else (none)) else (none))) else ((batonref12_Same.f kj14 t287 l0).bind fun t302 => (if t302 = true then (if a2 ≥ 0 then (if ((t285 == 0) == (decide (a2 < (l0.length : Int)))) = true then (if ((t290 == 5) == (!(decide (a2 < (l0.length : Int))))) = true then (if (t275.length : Int) = (wrap64 ((l0.length : Int) + (l1.length : Int))) then ((batonlaw12_live.f kj14).bind fun t303 => (some t303)) else (none)) else (none)) else (none)) else (if ((t285 == 0) == false) = true then (if ((t290 == 5) == (!false)) = true then (if (t275.length : Int) = (wrap64 ((l0.length : Int) + (l1.length : Int))) then ((batonlaw12_live.f kj14).bind fun t304 => (some t304)) else (none)) else (none)) else (none))) else (none)))) = some r := by rw [if_pos rfl] at H; exact H
                    clear H
                    have H := H1
                    clear H1
                    by_cases c75 : t290 = 0
                    · rw [if_pos c75] at H
                      have c75b0 : (t290 == 0) = true := beq_iff_eq.mpr c75
                      have c75b1 : (t290 != 0) = false := bne_eq_false_iff_eq.mpr c75
                      clear c75
                      by_cases c76 : a2 ≥ 0
                      · rw [if_pos c76] at H
                        have c76b0 : decide (0 ≤ a2) = true := decide_eq_true c76
                        clear c76
                        by_cases c77 : ((t285 == 0) == (decide (a2 < (l0.length : Int)))) = true
                        · rw [if_pos c77] at H
                          have c77b0 : ((t285 == 0) == (decide (a2 < (l0.length : Int)))) = true := c77
                          (try (have c77b1 : decide ((t285 == 0) = (decide (a2 < (l0.length : Int)))) = true := by simpa using c77))
                          (try (have c77b2 : ((t285 == 0) == (decide (a2 < (l0.length : Int)))) = true := by simpa using c77))
                          clear c77
                          by_cases c78 : ((t290 == 5) == (!(decide (a2 < (l0.length : Int))))) = true
                          · rw [if_pos c78] at H
                            have c78b0 : ((t290 == 5) == (!(decide (a2 < (l0.length : Int))))) = true := c78
                            (try (have c78b1 : decide ((t290 == 5) = (!(decide (a2 < (l0.length : Int))))) = true := by simpa using c78))
                            (try (have c78b2 : ((t290 == 5) == (!(decide (a2 < (l0.length : Int))))) = true := by simpa using c78))
                            clear c78
                            by_cases c79 : (t275.length : Int) = (wrap64 ((l0.length : Int) + (l1.length : Int)))
                            · rw [if_pos c79] at H
                              have c79b0 : ((t275.length : Int) == (wrap64 ((l0.length : Int) + (l1.length : Int)))) = true := beq_iff_eq.mpr c79
                              have c79b1 : ((t275.length : Int) != (wrap64 ((l0.length : Int) + (l1.length : Int)))) = false := bne_eq_false_iff_eq.mpr c79
                              clear c79
                              replace H := Option.bind_eq_some_iff.mp H
                              obtain ⟨t300, A800, H⟩ := H
                              replace H : (some t300) = some r := H
                              have A80 := Aside0.mk A800
                              clear A800
                              obtain rfl := Option.some.inj H
                              obtain ⟨Ao81, co81, eo81⟩ := Kd.V_slice HO_10.out
                              subst eo81
                              go_wp2_with (first | (go_at_call 15; (with_reducible refine (batonref12_Same.calls kj14 _ _ t282 _ _ l0 true _ ?side1 ?side2 ?side3 ?side4 A73.out).mono ?_); (case side1 => repeat (first | exact (Kd.V_reads' HO_10.out).2.2 | (with_reducible refine Kd.C_alloc ?_ _) | (with_reducible refine Kd.C_drewN ?_ _) | (with_reducible refine Kd.C_drew ?_))); (case side2 => exact (Kd.V_reads' HO_10.out).2.1); (case side3 => repeat (first | exact (Kd.C_below HR0.out HB.out) | (with_reducible refine Kd.C_alloc ?_ _) | (with_reducible refine Kd.C_drewN ?_ _) | (with_reducible refine Kd.C_drew ?_))); (case side4 => exact HC0.out); rintro e w' ⟨rfl, ⟨nd, rfl⟩⟩; obtain ⟨Ao82, co82, eo82⟩ := Kd.V_slice HO_7.out; subst eo82) | (go_at_call 10; (with_reducible refine (batonlaw12_live.calls kj14  t300 _ A80.out).mono ?_); rintro e w83 ⟨rfl, hb⟩; have n0_ := Aside0.mk (Kd.V_below (by (with_reducible repeat (first | apply Kd.V_alloc | apply Kd.V_drewN | apply Kd.V_drew)); exact HO_7.out) hb); have n1_ := Aside0.mk (Kd.V_below (by (with_reducible repeat (first | apply Kd.V_alloc | apply Kd.V_drewN | apply Kd.V_drew)); exact HO_10.out) hb); have n2_ := Aside0.mk (Kd.V_below (by (with_reducible repeat (first | apply Kd.V_alloc | apply Kd.V_drewN | apply Kd.V_drew)); exact HO_12.out) hb); have n3_ := Aside0.mk (blk_below (g := gb286) (o := .cells #[.int .i64 t279, .int .i64 t280, .string t281] 31 (0, 0)) (by (with_reducible repeat (first | refine blk_drewN ?_ _ | refine blk_drew ?_ | refine blk_alloc ?_ _)); exact BK286.out) hb); have n4_ := Aside0.mk (below_step (by repeat (first | (with_reducible first | exact HB.out | apply below_alloc | apply pw_below_drewN | apply below_drew1 | refine below_set ?_ GE286.out) | exact HB.out)) hb); clear HO_7; clear HO_10; clear HO_12; clear BK286; clear HB; have HO_7 := n0_; have HO_10 := n1_; have HO_12 := n2_; have BK286 := n3_; have HB := n4_; clear n0_ n1_ n2_ n3_ n4_; (try clear hb); (try clear hb2); (try clear hk); (try clear hi)))
                              all_goals (go_ret; exact ⟨by first | rfl | (simp [errW_none, errW_some] <;> rfl) | (simp [*, errW_none, errW_some] <;> rfl) | (exfalso; simp_all <;> omega), by repeat (first | (with_reducible first | exact HB.out | apply below_alloc | apply pw_below_drewN | apply below_drew1 | refine below_set ?_ GE286.out) | exact HB.out)⟩)
                            · rw [if_neg c79] at H
                              exact absurd H (by simp)
                          · rw [if_neg c78] at H
                            exact absurd H (by simp)
                        · rw [if_neg c77] at H
                          exact absurd H (by simp)
                      · rw [if_neg c76] at H
                        have c76b0 : decide (0 ≤ a2) = false := decide_eq_false c76
                        clear c76
                        by_cases c84 : ((t285 == 0) == false) = true
                        · rw [if_pos c84] at H
                          have c84b0 : ((t285 == 0) == false) = true := c84
                          (try (have c84b1 : decide ((t285 == 0) = false) = true := by simpa using c84))
                          (try (have c84b2 : ((t285 == 0) == false) = true := by simpa using c84))
                          clear c84
                          by_cases c85 : ((t290 == 5) == (!false)) = true
                          · rw [if_pos c85] at H
                            have c85b0 : ((t290 == 5) == (!false)) = true := c85
                            (try (have c85b1 : decide ((t290 == 5) = (!false)) = true := by simpa using c85))
                            (try (have c85b2 : ((t290 == 5) == (!false)) = true := by simpa using c85))
                            clear c85
                            by_cases c86 : (t275.length : Int) = (wrap64 ((l0.length : Int) + (l1.length : Int)))
                            · rw [if_pos c86] at H
                              have c86b0 : ((t275.length : Int) == (wrap64 ((l0.length : Int) + (l1.length : Int)))) = true := beq_iff_eq.mpr c86
                              have c86b1 : ((t275.length : Int) != (wrap64 ((l0.length : Int) + (l1.length : Int)))) = false := bne_eq_false_iff_eq.mpr c86
                              clear c86
                              replace H := Option.bind_eq_some_iff.mp H
                              obtain ⟨t301, A870, H⟩ := H
                              replace H : (some t301) = some r := H
                              have A87 := Aside0.mk A870
                              clear A870
                              obtain rfl := Option.some.inj H
                              obtain ⟨Ao88, co88, eo88⟩ := Kd.V_slice HO_10.out
                              subst eo88
                              go_wp2_with (first | (go_at_call 15; (with_reducible refine (batonref12_Same.calls kj14 _ _ t282 _ _ l0 true _ ?side1 ?side2 ?side3 ?side4 A73.out).mono ?_); (case side1 => repeat (first | exact (Kd.V_reads' HO_10.out).2.2 | (with_reducible refine Kd.C_alloc ?_ _) | (with_reducible refine Kd.C_drewN ?_ _) | (with_reducible refine Kd.C_drew ?_))); (case side2 => exact (Kd.V_reads' HO_10.out).2.1); (case side3 => repeat (first | exact (Kd.C_below HR0.out HB.out) | (with_reducible refine Kd.C_alloc ?_ _) | (with_reducible refine Kd.C_drewN ?_ _) | (with_reducible refine Kd.C_drew ?_))); (case side4 => exact HC0.out); rintro e w' ⟨rfl, ⟨nd, rfl⟩⟩; obtain ⟨Ao89, co89, eo89⟩ := Kd.V_slice HO_7.out; subst eo89) | (go_at_call 10; (with_reducible refine (batonlaw12_live.calls kj14  t301 _ A87.out).mono ?_); rintro e w90 ⟨rfl, hb⟩; have n0_ := Aside0.mk (Kd.V_below (by (with_reducible repeat (first | apply Kd.V_alloc | apply Kd.V_drewN | apply Kd.V_drew)); exact HO_7.out) hb); have n1_ := Aside0.mk (Kd.V_below (by (with_reducible repeat (first | apply Kd.V_alloc | apply Kd.V_drewN | apply Kd.V_drew)); exact HO_10.out) hb); have n2_ := Aside0.mk (Kd.V_below (by (with_reducible repeat (first | apply Kd.V_alloc | apply Kd.V_drewN | apply Kd.V_drew)); exact HO_12.out) hb); have n3_ := Aside0.mk (blk_below (g := gb286) (o := .cells #[.int .i64 t279, .int .i64 t280, .string t281] 31 (0, 0)) (by (with_reducible repeat (first | refine blk_drewN ?_ _ | refine blk_drew ?_ | refine blk_alloc ?_ _)); exact BK286.out) hb); have n4_ := Aside0.mk (below_step (by repeat (first | (with_reducible first | exact HB.out | apply below_alloc | apply pw_below_drewN | apply below_drew1 | refine below_set ?_ GE286.out) | exact HB.out)) hb); clear HO_7; clear HO_10; clear HO_12; clear BK286; clear HB; have HO_7 := n0_; have HO_10 := n1_; have HO_12 := n2_; have BK286 := n3_; have HB := n4_; clear n0_ n1_ n2_ n3_ n4_; (try clear hb); (try clear hb2); (try clear hk); (try clear hi)))
                              all_goals (go_ret; exact ⟨by first | rfl | (simp [errW_none, errW_some] <;> rfl) | (simp [*, errW_none, errW_some] <;> rfl) | (exfalso; simp_all <;> omega), by repeat (first | (with_reducible first | exact HB.out | apply below_alloc | apply pw_below_drewN | apply below_drew1 | refine below_set ?_ GE286.out) | exact HB.out)⟩)
                            · rw [if_neg c86] at H
                              exact absurd H (by simp)
                          · rw [if_neg c85] at H
                            exact absurd H (by simp)
                        · rw [if_neg c84] at H
                          exact absurd H (by simp)
                    · rw [if_neg c75] at H
                      have c75b0 : (t290 == 0) = false := beq_eq_false_iff_ne.mpr c75
                      have c75b1 : (t290 != 0) = true := bne_iff_ne.mpr c75
                      replace H := Option.bind_eq_some_iff.mp H
                      obtain ⟨t302, A910, H⟩ := H
                      replace H : (if t302 = true then (if a2 ≥ 0 then (if ((t285 == 0) == (decide (a2 < (l0.length : Int)))) = true then (if ((t290 == 5) == (!(decide (a2 < (l0.length : Int))))) = true then (if (t275.length : Int) = (wrap64 ((l0.length : Int) + (l1.length : Int))) then ((batonlaw12_live.f kj14).bind fun t303 => (some t303)) else (none)) else (none)) else (none)) else (if ((t285 == 0) == false) = true then (if ((t290 == 5) == (!false)) = true then (if (t275.length : Int) = (wrap64 ((l0.length : Int) + (l1.length : Int))) then ((batonlaw12_live.f kj14).bind fun t304 => (some t304)) else (none)) else (none)) else (none))) else (none)) = some r := H
                      have A91 := Aside0.mk A910
                      clear A910
                      by_cases c92 : t302 = true
                      · subst c92
                        have H1 : (if a2 ≥ 0 then (if ((t285 == 0) == (decide (a2 < (l0.length : Int)))) = true then (if ((t290 == 5) == (!(decide (a2 < (l0.length : Int))))) = true then (if (t275.length : Int) = (wrap64 ((l0.length : Int) + (l1.length : Int))) then ((batonlaw12_live.f kj14).bind fun t303 => (some t303)) else (none)) else (none)) else (none)) else (if ((t285 == 0) == false) = true then (if ((t290 == 5) == (!false)) = true then (if (t275.length : Int) = (wrap64 ((l0.length : Int) + (l1.length : Int))) then ((batonlaw12_live.f kj14).bind fun t304 => (some t304)) else (none)) else (none)) else (none))) = some r := by rw [if_pos rfl] at H; exact H
                        clear H
                        have H := H1
                        clear H1
                        by_cases c93 : a2 ≥ 0
                        · rw [if_pos c93] at H
                          have c93b0 : decide (0 ≤ a2) = true := decide_eq_true c93
                          clear c93
                          by_cases c94 : ((t285 == 0) == (decide (a2 < (l0.length : Int)))) = true
                          · rw [if_pos c94] at H
                            have c94b0 : ((t285 == 0) == (decide (a2 < (l0.length : Int)))) = true := c94
                            (try (have c94b1 : decide ((t285 == 0) = (decide (a2 < (l0.length : Int)))) = true := by simpa using c94))
                            (try (have c94b2 : ((t285 == 0) == (decide (a2 < (l0.length : Int)))) = true := by simpa using c94))
                            clear c94
                            by_cases c95 : ((t290 == 5) == (!(decide (a2 < (l0.length : Int))))) = true
                            · rw [if_pos c95] at H
                              have c95b0 : ((t290 == 5) == (!(decide (a2 < (l0.length : Int))))) = true := c95
                              (try (have c95b1 : decide ((t290 == 5) = (!(decide (a2 < (l0.length : Int))))) = true := by simpa using c95))
                              (try (have c95b2 : ((t290 == 5) == (!(decide (a2 < (l0.length : Int))))) = true := by simpa using c95))
                              clear c95
                              by_cases c96 : (t275.length : Int) = (wrap64 ((l0.length : Int) + (l1.length : Int)))
                              · rw [if_pos c96] at H
                                have c96b0 : ((t275.length : Int) == (wrap64 ((l0.length : Int) + (l1.length : Int)))) = true := beq_iff_eq.mpr c96
                                have c96b1 : ((t275.length : Int) != (wrap64 ((l0.length : Int) + (l1.length : Int)))) = false := bne_eq_false_iff_eq.mpr c96
                                clear c96
                                replace H := Option.bind_eq_some_iff.mp H
                                obtain ⟨t303, A970, H⟩ := H
                                replace H : (some t303) = some r := H
                                have A97 := Aside0.mk A970
                                clear A970
                                obtain rfl := Option.some.inj H
                                obtain ⟨Ao98, co98, eo98⟩ := Kd.V_slice HO_10.out
                                subst eo98
                                go_wp2_with (first | (go_at_call 15; (with_reducible refine (batonref12_Same.calls kj14 _ _ t282 _ _ l0 true _ ?side1 ?side2 ?side3 ?side4 A73.out).mono ?_); (case side1 => repeat (first | exact (Kd.V_reads' HO_10.out).2.2 | (with_reducible refine Kd.C_alloc ?_ _) | (with_reducible refine Kd.C_drewN ?_ _) | (with_reducible refine Kd.C_drew ?_))); (case side2 => exact (Kd.V_reads' HO_10.out).2.1); (case side3 => repeat (first | exact (Kd.C_below HR0.out HB.out) | (with_reducible refine Kd.C_alloc ?_ _) | (with_reducible refine Kd.C_drewN ?_ _) | (with_reducible refine Kd.C_drew ?_))); (case side4 => exact HC0.out); rintro e w' ⟨rfl, ⟨nd, rfl⟩⟩; obtain ⟨Ao99, co99, eo99⟩ := Kd.V_slice HO_12.out; subst eo99) | (go_at_call 15; (with_reducible refine (batonref12_Same.calls kj14 _ _ t287 _ _ l0 true _ ?side1 ?side2 ?side3 ?side4 A91.out).mono ?_); (case side1 => repeat (first | exact (Kd.V_reads' HO_12.out).2.2 | (with_reducible refine Kd.C_alloc ?_ _) | (with_reducible refine Kd.C_drewN ?_ _) | (with_reducible refine Kd.C_drew ?_))); (case side2 => exact (Kd.V_reads' HO_12.out).2.1); (case side3 => repeat (first | exact (Kd.C_below HR0.out (by repeat (first | (with_reducible first | exact HB.out | apply below_alloc | apply pw_below_drewN | apply below_drew1 | refine below_set ?_ GE286.out) | exact HB.out))) | (with_reducible refine Kd.C_alloc ?_ _) | (with_reducible refine Kd.C_drewN ?_ _) | (with_reducible refine Kd.C_drew ?_))); (case side4 => exact HC0.out); rintro e w' ⟨rfl, ⟨nd, rfl⟩⟩; obtain ⟨Ao100, co100, eo100⟩ := Kd.V_slice HO_7.out; subst eo100) | (go_at_call 10; (with_reducible refine (batonlaw12_live.calls kj14  t303 _ A97.out).mono ?_); rintro e w101 ⟨rfl, hb⟩; have n0_ := Aside0.mk (Kd.V_below (by (with_reducible repeat (first | apply Kd.V_alloc | apply Kd.V_drewN | apply Kd.V_drew)); exact HO_7.out) hb); have n1_ := Aside0.mk (Kd.V_below (by (with_reducible repeat (first | apply Kd.V_alloc | apply Kd.V_drewN | apply Kd.V_drew)); exact HO_10.out) hb); have n2_ := Aside0.mk (Kd.V_below (by (with_reducible repeat (first | apply Kd.V_alloc | apply Kd.V_drewN | apply Kd.V_drew)); exact HO_12.out) hb); have n3_ := Aside0.mk (blk_below (g := gb286) (o := .cells #[.int .i64 t279, .int .i64 t280, .string t281] 31 (0, 0)) (by (with_reducible repeat (first | refine blk_drewN ?_ _ | refine blk_drew ?_ | refine blk_alloc ?_ _)); exact BK286.out) hb); have n4_ := Aside0.mk (below_step (by repeat (first | (with_reducible first | exact HB.out | apply below_alloc | apply pw_below_drewN | apply below_drew1 | refine below_set ?_ GE286.out) | exact HB.out)) hb); clear HO_7; clear HO_10; clear HO_12; clear BK286; clear HB; have HO_7 := n0_; have HO_10 := n1_; have HO_12 := n2_; have BK286 := n3_; have HB := n4_; clear n0_ n1_ n2_ n3_ n4_; (try clear hb); (try clear hb2); (try clear hk); (try clear hi)))
                                all_goals (go_ret; exact ⟨by first | rfl | (simp [errW_none, errW_some] <;> rfl) | (simp [*, errW_none, errW_some] <;> rfl) | (exfalso; simp_all <;> omega), by repeat (first | (with_reducible first | exact HB.out | apply below_alloc | apply pw_below_drewN | apply below_drew1 | refine below_set ?_ GE286.out) | exact HB.out)⟩)
                              · rw [if_neg c96] at H
                                exact absurd H (by simp)
                            · rw [if_neg c95] at H
                              exact absurd H (by simp)
                          · rw [if_neg c94] at H
                            exact absurd H (by simp)
                        · rw [if_neg c93] at H
                          have c93b0 : decide (0 ≤ a2) = false := decide_eq_false c93
                          clear c93
                          by_cases c102 : ((t285 == 0) == false) = true
                          · rw [if_pos c102] at H
                            have c102b0 : ((t285 == 0) == false) = true := c102
                            (try (have c102b1 : decide ((t285 == 0) = false) = true := by simpa using c102))
                            (try (have c102b2 : ((t285 == 0) == false) = true := by simpa using c102))
                            clear c102
                            by_cases c103 : ((t290 == 5) == (!false)) = true
                            · rw [if_pos c103] at H
                              have c103b0 : ((t290 == 5) == (!false)) = true := c103
                              (try (have c103b1 : decide ((t290 == 5) = (!false)) = true := by simpa using c103))
                              (try (have c103b2 : ((t290 == 5) == (!false)) = true := by simpa using c103))
                              clear c103
                              by_cases c104 : (t275.length : Int) = (wrap64 ((l0.length : Int) + (l1.length : Int)))
                              · rw [if_pos c104] at H
                                have c104b0 : ((t275.length : Int) == (wrap64 ((l0.length : Int) + (l1.length : Int)))) = true := beq_iff_eq.mpr c104
                                have c104b1 : ((t275.length : Int) != (wrap64 ((l0.length : Int) + (l1.length : Int)))) = false := bne_eq_false_iff_eq.mpr c104
                                clear c104
                                replace H := Option.bind_eq_some_iff.mp H
                                obtain ⟨t304, A1050, H⟩ := H
                                replace H : (some t304) = some r := H
                                have A105 := Aside0.mk A1050
                                clear A1050
                                obtain rfl := Option.some.inj H
                                obtain ⟨Ao106, co106, eo106⟩ := Kd.V_slice HO_10.out
                                subst eo106
                                go_wp2_with (first | (go_at_call 15; (with_reducible refine (batonref12_Same.calls kj14 _ _ t282 _ _ l0 true _ ?side1 ?side2 ?side3 ?side4 A73.out).mono ?_); (case side1 => repeat (first | exact (Kd.V_reads' HO_10.out).2.2 | (with_reducible refine Kd.C_alloc ?_ _) | (with_reducible refine Kd.C_drewN ?_ _) | (with_reducible refine Kd.C_drew ?_))); (case side2 => exact (Kd.V_reads' HO_10.out).2.1); (case side3 => repeat (first | exact (Kd.C_below HR0.out HB.out) | (with_reducible refine Kd.C_alloc ?_ _) | (with_reducible refine Kd.C_drewN ?_ _) | (with_reducible refine Kd.C_drew ?_))); (case side4 => exact HC0.out); rintro e w' ⟨rfl, ⟨nd, rfl⟩⟩; obtain ⟨Ao107, co107, eo107⟩ := Kd.V_slice HO_12.out; subst eo107) | (go_at_call 15; (with_reducible refine (batonref12_Same.calls kj14 _ _ t287 _ _ l0 true _ ?side1 ?side2 ?side3 ?side4 A91.out).mono ?_); (case side1 => repeat (first | exact (Kd.V_reads' HO_12.out).2.2 | (with_reducible refine Kd.C_alloc ?_ _) | (with_reducible refine Kd.C_drewN ?_ _) | (with_reducible refine Kd.C_drew ?_))); (case side2 => exact (Kd.V_reads' HO_12.out).2.1); (case side3 => repeat (first | exact (Kd.C_below HR0.out (by repeat (first | (with_reducible first | exact HB.out | apply below_alloc | apply pw_below_drewN | apply below_drew1 | refine below_set ?_ GE286.out) | exact HB.out))) | (with_reducible refine Kd.C_alloc ?_ _) | (with_reducible refine Kd.C_drewN ?_ _) | (with_reducible refine Kd.C_drew ?_))); (case side4 => exact HC0.out); rintro e w' ⟨rfl, ⟨nd, rfl⟩⟩; obtain ⟨Ao108, co108, eo108⟩ := Kd.V_slice HO_7.out; subst eo108) | (go_at_call 10; (with_reducible refine (batonlaw12_live.calls kj14  t304 _ A105.out).mono ?_); rintro e w109 ⟨rfl, hb⟩; have n0_ := Aside0.mk (Kd.V_below (by (with_reducible repeat (first | apply Kd.V_alloc | apply Kd.V_drewN | apply Kd.V_drew)); exact HO_7.out) hb); have n1_ := Aside0.mk (Kd.V_below (by (with_reducible repeat (first | apply Kd.V_alloc | apply Kd.V_drewN | apply Kd.V_drew)); exact HO_10.out) hb); have n2_ := Aside0.mk (Kd.V_below (by (with_reducible repeat (first | apply Kd.V_alloc | apply Kd.V_drewN | apply Kd.V_drew)); exact HO_12.out) hb); have n3_ := Aside0.mk (blk_below (g := gb286) (o := .cells #[.int .i64 t279, .int .i64 t280, .string t281] 31 (0, 0)) (by (with_reducible repeat (first | refine blk_drewN ?_ _ | refine blk_drew ?_ | refine blk_alloc ?_ _)); exact BK286.out) hb); have n4_ := Aside0.mk (below_step (by repeat (first | (with_reducible first | exact HB.out | apply below_alloc | apply pw_below_drewN | apply below_drew1 | refine below_set ?_ GE286.out) | exact HB.out)) hb); clear HO_7; clear HO_10; clear HO_12; clear BK286; clear HB; have HO_7 := n0_; have HO_10 := n1_; have HO_12 := n2_; have BK286 := n3_; have HB := n4_; clear n0_ n1_ n2_ n3_ n4_; (try clear hb); (try clear hb2); (try clear hk); (try clear hi)))
                                all_goals (go_ret; exact ⟨by first | rfl | (simp [errW_none, errW_some] <;> rfl) | (simp [*, errW_none, errW_some] <;> rfl) | (exfalso; simp_all <;> omega), by repeat (first | (with_reducible first | exact HB.out | apply below_alloc | apply pw_below_drewN | apply below_drew1 | refine below_set ?_ GE286.out) | exact HB.out)⟩)
                              · rw [if_neg c104] at H
                                exact absurd H (by simp)
                            · rw [if_neg c103] at H
                              exact absurd H (by simp)
                          · rw [if_neg c102] at H
                            exact absurd H (by simp)
                      · replace c92 := Bool.eq_false_iff.mpr c92
                        subst c92
                        have H1 : (none) = some r := by rw [if_neg (show ¬ (false = true) by decide)] at H; exact H
                        clear H
                        have H := H1
                        clear H1
                        exact absurd H (by simp)
                  · replace c74 := Bool.eq_false_iff.mpr c74
                    subst c74
                    have H1 : (none) = some r := by rw [if_neg (show ¬ (false = true) by decide)] at H; exact H
                    clear H
                    have H := H1
                    clear H1
                    exact absurd H (by simp)
              · rw [if_neg c40] at H
                have c40b0 : (t278 == 0) = false := beq_eq_false_iff_ne.mpr c40
                have c40b1 : (t278 != 0) = true := bne_iff_ne.mpr c40
                replace H := Option.bind_eq_some_iff.mp H
                obtain ⟨t305, A1100, H⟩ := H
                replace H : (if t305 = true then (if t285 = 0 then (if t290 = 0 then (if a2 ≥ 0 then (if ((t285 == 0) == (decide (a2 < (l0.length : Int)))) = true then (if ((t290 == 5) == (!(decide (a2 < (l0.length : Int))))) = true then ((batonlaw12_live.f kj14).bind fun t306 => (some t306)) else (none)) else (none)) else (if ((t285 == 0) == false) = true then (if ((t290 == 5) == (!false)) = true then ((batonlaw12_live.f kj14).bind fun t307 => (some t307)) else (none)) else (none))) else ((batonref12_Same.f kj14 t287 l0).bind fun t308 => (if t308 = true then (if a2 ≥ 0 then (if ((t285 == 0) == (decide (a2 < (l0.length : Int)))) = true then (if ((t290 == 5) == (!(decide (a2 < (l0.length : Int))))) = true then ((batonlaw12_live.f kj14).bind fun t309 => (some t309)) else (none)) else (none)) else (if ((t285 == 0) == false) = true then (if ((t290 == 5) == (!false)) = true then ((batonlaw12_live.f kj14).bind fun t310 => (some t310)) else (none)) else (none))) else (none)))) else ((batonref12_Same.f kj14 t282 l0).bind fun t311 => (if t311 = true then (if t290 = 0 then (if a2 ≥ 0 then (if ((t285 == 0) == (decide (a2 < (l0.length : Int)))) = true then (if ((t290 == 5) == (!(decide (a2 < (l0.length : Int))))) = true then ((batonlaw12_live.f kj14).bind fun t312 => (some t312)) else (none)) else (none)) else (if ((t285 == 0) == false) = true then (if ((t290 == 5) == (!false)) = true then ((batonlaw12_live.f kj14).bind fun t313 => (some t313)) else (none)) else (none))) else ((batonref12_Same.f kj14 t287 l0).bind fun t314 => (if t314 = true then (if a2 ≥ 0 then (if ((t285 == 0) == (decide (a2 < (l0.length : Int)))) = true then (if ((t290 == 5) == (!(decide (a2 < (l0.length : Int))))) = true then ((batonlaw12_live.f kj14).bind fun t315 => (some t315)) else (none)) else (none)) else (if ((t285 == 0) == false) = true then (if ((t290 == 5) == (!false)) = true then ((batonlaw12_live.f kj14).bind fun t316 => (some t316)) else (none)) else (none))) else (none)))) else (none)))) else (none)) = some r := H
                have A110 := Aside0.mk A1100
                clear A1100
                by_cases c111 : t305 = true
                · subst c111
                  have H1 : (if t285 = 0 then (if t290 = 0 then (if a2 ≥ 0 then (if ((t285 == 0) == (decide (a2 < (l0.length : Int)))) = true then (if ((t290 == 5) == (!(decide (a2 < (l0.length : Int))))) = true then ((batonlaw12_live.f kj14).bind fun t306 => (some t306)) else (none)) else (none)) else (if ((t285 == 0) == false) = true then (if ((t290 == 5) == (!false)) = true then ((batonlaw12_live.f kj14).bind fun t307 => (some t307)) else (none)) else (none))) else ((batonref12_Same.f kj14 t287 l0).bind fun t308 => (if t308 = true then (if a2 ≥ 0 then (if ((t285 == 0) == (decide (a2 < (l0.length : Int)))) = true then (if ((t290 == 5) == (!(decide (a2 < (l0.length : Int))))) = true then ((batonlaw12_live.f kj14).bind fun t309 => (some t309)) else (none)) else (none)) else (if ((t285 == 0) == false) = true then (if ((t290 == 5) == (!false)) = true then ((batonlaw12_live.f kj14).bind fun t310 => (some t310)) else (none)) else (none))) else (none)))) else ((batonref12_Same.f kj14 t282 l0).bind fun t311 => (if t311 = true then (if t290 = 0 then (if a2 ≥ 0 then (if ((t285 == 0) == (decide (a2 < (l0.length : Int)))) = true then (if ((t290 == 5) == (!(decide (a2 < (l0.length : Int))))) = true then ((batonlaw12_live.f kj14).bind fun t312 => (some t312)) else (none)) else (none)) else (if ((t285 == 0) == false) = true then (if ((t290 == 5) == (!false)) = true then ((batonlaw12_live.f kj14).bind fun t313 => (some t313)) else (none)) else (none))) else ((batonref12_Same.f kj14 t287 l0).bind fun t314 => (if t314 = true then (if a2 ≥ 0 then (if ((t285 == 0) == (decide (a2 < (l0.length : Int)))) = true then (if ((t290 == 5) == (!(decide (a2 < (l0.length : Int))))) = true then ((batonlaw12_live.f kj14).bind fun t315 => (some t315)) else (none)) else (none)) else (if ((t285 == 0) == false) = true then (if ((t290 == 5) == (!false)) = true then ((batonlaw12_live.f kj14).bind fun t316 => (some t316)) else (none)) else (none))) else (none)))) else (none)))) = some r := by rw [if_pos rfl] at H; exact H
                  clear H
                  have H := H1
                  clear H1
                  by_cases c112 : t285 = 0
                  · rw [if_pos c112] at H
                    have c112b0 : (t285 == 0) = true := beq_iff_eq.mpr c112
                    have c112b1 : (t285 != 0) = false := bne_eq_false_iff_eq.mpr c112
                    clear c112
                    by_cases c113 : t290 = 0
                    · rw [if_pos c113] at H
                      have c113b0 : (t290 == 0) = true := beq_iff_eq.mpr c113
                      have c113b1 : (t290 != 0) = false := bne_eq_false_iff_eq.mpr c113
                      clear c113
                      by_cases c114 : a2 ≥ 0
                      · rw [if_pos c114] at H
                        have c114b0 : decide (0 ≤ a2) = true := decide_eq_true c114
                        clear c114
                        by_cases c115 : ((t285 == 0) == (decide (a2 < (l0.length : Int)))) = true
                        · rw [if_pos c115] at H
                          have c115b0 : ((t285 == 0) == (decide (a2 < (l0.length : Int)))) = true := c115
                          (try (have c115b1 : decide ((t285 == 0) = (decide (a2 < (l0.length : Int)))) = true := by simpa using c115))
                          (try (have c115b2 : ((t285 == 0) == (decide (a2 < (l0.length : Int)))) = true := by simpa using c115))
                          clear c115
                          by_cases c116 : ((t290 == 5) == (!(decide (a2 < (l0.length : Int))))) = true
                          · rw [if_pos c116] at H
                            have c116b0 : ((t290 == 5) == (!(decide (a2 < (l0.length : Int))))) = true := c116
                            (try (have c116b1 : decide ((t290 == 5) = (!(decide (a2 < (l0.length : Int))))) = true := by simpa using c116))
                            (try (have c116b2 : ((t290 == 5) == (!(decide (a2 < (l0.length : Int))))) = true := by simpa using c116))
                            clear c116
                            replace H := Option.bind_eq_some_iff.mp H
                            obtain ⟨t306, A1170, H⟩ := H
                            replace H : (some t306) = some r := H
                            have A117 := Aside0.mk A1170
                            clear A1170
                            obtain rfl := Option.some.inj H
                            obtain ⟨Ao118, co118, eo118⟩ := Kd.V_slice HO_7.out
                            subst eo118
                            go_wp2_with (first | (go_at_call 15; (with_reducible refine (batonref12_Same.calls kj14 _ _ t275 _ _ l0 true _ ?side1 ?side2 ?side3 ?side4 A110.out).mono ?_); (case side1 => repeat (first | exact (Kd.V_reads' HO_7.out).2.2 | (with_reducible refine Kd.C_alloc ?_ _) | (with_reducible refine Kd.C_drewN ?_ _) | (with_reducible refine Kd.C_drew ?_))); (case side2 => exact (Kd.V_reads' HO_7.out).2.1); (case side3 => repeat (first | exact (Kd.C_below HR0.out HB.out) | (with_reducible refine Kd.C_alloc ?_ _) | (with_reducible refine Kd.C_drewN ?_ _) | (with_reducible refine Kd.C_drew ?_))); (case side4 => exact HC0.out); rintro e w' ⟨rfl, ⟨nd, rfl⟩⟩) | (go_at_call 10; (with_reducible refine (batonlaw12_live.calls kj14  t306 _ A117.out).mono ?_); rintro e w119 ⟨rfl, hb⟩; have n0_ := Aside0.mk (Kd.V_below (by (with_reducible repeat (first | apply Kd.V_alloc | apply Kd.V_drewN | apply Kd.V_drew)); exact HO_7.out) hb); have n1_ := Aside0.mk (Kd.V_below (by (with_reducible repeat (first | apply Kd.V_alloc | apply Kd.V_drewN | apply Kd.V_drew)); exact HO_10.out) hb); have n2_ := Aside0.mk (Kd.V_below (by (with_reducible repeat (first | apply Kd.V_alloc | apply Kd.V_drewN | apply Kd.V_drew)); exact HO_12.out) hb); have n3_ := Aside0.mk (blk_below (g := gb286) (o := .cells #[.int .i64 t279, .int .i64 t280, .string t281] 31 (0, 0)) (by (with_reducible repeat (first | refine blk_drewN ?_ _ | refine blk_drew ?_ | refine blk_alloc ?_ _)); exact BK286.out) hb); have n4_ := Aside0.mk (below_step (by repeat (first | (with_reducible first | exact HB.out | apply below_alloc | apply pw_below_drewN | apply below_drew1 | refine below_set ?_ GE286.out) | exact HB.out)) hb); clear HO_7; clear HO_10; clear HO_12; clear BK286; clear HB; have HO_7 := n0_; have HO_10 := n1_; have HO_12 := n2_; have BK286 := n3_; have HB := n4_; clear n0_ n1_ n2_ n3_ n4_; (try clear hb); (try clear hb2); (try clear hk); (try clear hi)))
                            all_goals (go_ret; exact ⟨by first | rfl | (simp [errW_none, errW_some] <;> rfl) | (simp [*, errW_none, errW_some] <;> rfl) | (exfalso; simp_all <;> omega), by repeat (first | (with_reducible first | exact HB.out | apply below_alloc | apply pw_below_drewN | apply below_drew1 | refine below_set ?_ GE286.out) | exact HB.out)⟩)
                          · rw [if_neg c116] at H
                            exact absurd H (by simp)
                        · rw [if_neg c115] at H
                          exact absurd H (by simp)
                      · rw [if_neg c114] at H
                        have c114b0 : decide (0 ≤ a2) = false := decide_eq_false c114
                        clear c114
                        by_cases c120 : ((t285 == 0) == false) = true
                        · rw [if_pos c120] at H
                          have c120b0 : ((t285 == 0) == false) = true := c120
                          (try (have c120b1 : decide ((t285 == 0) = false) = true := by simpa using c120))
                          (try (have c120b2 : ((t285 == 0) == false) = true := by simpa using c120))
                          clear c120
                          by_cases c121 : ((t290 == 5) == (!false)) = true
                          · rw [if_pos c121] at H
                            have c121b0 : ((t290 == 5) == (!false)) = true := c121
                            (try (have c121b1 : decide ((t290 == 5) = (!false)) = true := by simpa using c121))
                            (try (have c121b2 : ((t290 == 5) == (!false)) = true := by simpa using c121))
                            clear c121
                            replace H := Option.bind_eq_some_iff.mp H
                            obtain ⟨t307, A1220, H⟩ := H
                            replace H : (some t307) = some r := H
                            have A122 := Aside0.mk A1220
                            clear A1220
                            obtain rfl := Option.some.inj H
                            obtain ⟨Ao123, co123, eo123⟩ := Kd.V_slice HO_7.out
                            subst eo123
                            go_wp2_with (first | (go_at_call 15; (with_reducible refine (batonref12_Same.calls kj14 _ _ t275 _ _ l0 true _ ?side1 ?side2 ?side3 ?side4 A110.out).mono ?_); (case side1 => repeat (first | exact (Kd.V_reads' HO_7.out).2.2 | (with_reducible refine Kd.C_alloc ?_ _) | (with_reducible refine Kd.C_drewN ?_ _) | (with_reducible refine Kd.C_drew ?_))); (case side2 => exact (Kd.V_reads' HO_7.out).2.1); (case side3 => repeat (first | exact (Kd.C_below HR0.out HB.out) | (with_reducible refine Kd.C_alloc ?_ _) | (with_reducible refine Kd.C_drewN ?_ _) | (with_reducible refine Kd.C_drew ?_))); (case side4 => exact HC0.out); rintro e w' ⟨rfl, ⟨nd, rfl⟩⟩) | (go_at_call 10; (with_reducible refine (batonlaw12_live.calls kj14  t307 _ A122.out).mono ?_); rintro e w124 ⟨rfl, hb⟩; have n0_ := Aside0.mk (Kd.V_below (by (with_reducible repeat (first | apply Kd.V_alloc | apply Kd.V_drewN | apply Kd.V_drew)); exact HO_7.out) hb); have n1_ := Aside0.mk (Kd.V_below (by (with_reducible repeat (first | apply Kd.V_alloc | apply Kd.V_drewN | apply Kd.V_drew)); exact HO_10.out) hb); have n2_ := Aside0.mk (Kd.V_below (by (with_reducible repeat (first | apply Kd.V_alloc | apply Kd.V_drewN | apply Kd.V_drew)); exact HO_12.out) hb); have n3_ := Aside0.mk (blk_below (g := gb286) (o := .cells #[.int .i64 t279, .int .i64 t280, .string t281] 31 (0, 0)) (by (with_reducible repeat (first | refine blk_drewN ?_ _ | refine blk_drew ?_ | refine blk_alloc ?_ _)); exact BK286.out) hb); have n4_ := Aside0.mk (below_step (by repeat (first | (with_reducible first | exact HB.out | apply below_alloc | apply pw_below_drewN | apply below_drew1 | refine below_set ?_ GE286.out) | exact HB.out)) hb); clear HO_7; clear HO_10; clear HO_12; clear BK286; clear HB; have HO_7 := n0_; have HO_10 := n1_; have HO_12 := n2_; have BK286 := n3_; have HB := n4_; clear n0_ n1_ n2_ n3_ n4_; (try clear hb); (try clear hb2); (try clear hk); (try clear hi)))
                            all_goals (go_ret; exact ⟨by first | rfl | (simp [errW_none, errW_some] <;> rfl) | (simp [*, errW_none, errW_some] <;> rfl) | (exfalso; simp_all <;> omega), by repeat (first | (with_reducible first | exact HB.out | apply below_alloc | apply pw_below_drewN | apply below_drew1 | refine below_set ?_ GE286.out) | exact HB.out)⟩)
                          · rw [if_neg c121] at H
                            exact absurd H (by simp)
                        · rw [if_neg c120] at H
                          exact absurd H (by simp)
                    · rw [if_neg c113] at H
                      have c113b0 : (t290 == 0) = false := beq_eq_false_iff_ne.mpr c113
                      have c113b1 : (t290 != 0) = true := bne_iff_ne.mpr c113
                      replace H := Option.bind_eq_some_iff.mp H
                      obtain ⟨t308, A1250, H⟩ := H
                      replace H : (if t308 = true then (if a2 ≥ 0 then (if ((t285 == 0) == (decide (a2 < (l0.length : Int)))) = true then (if ((t290 == 5) == (!(decide (a2 < (l0.length : Int))))) = true then ((batonlaw12_live.f kj14).bind fun t309 => (some t309)) else (none)) else (none)) else (if ((t285 == 0) == false) = true then (if ((t290 == 5) == (!false)) = true then ((batonlaw12_live.f kj14).bind fun t310 => (some t310)) else (none)) else (none))) else (none)) = some r := H
                      have A125 := Aside0.mk A1250
                      clear A1250
                      by_cases c126 : t308 = true
                      · subst c126
                        have H1 : (if a2 ≥ 0 then (if ((t285 == 0) == (decide (a2 < (l0.length : Int)))) = true then (if ((t290 == 5) == (!(decide (a2 < (l0.length : Int))))) = true then ((batonlaw12_live.f kj14).bind fun t309 => (some t309)) else (none)) else (none)) else (if ((t285 == 0) == false) = true then (if ((t290 == 5) == (!false)) = true then ((batonlaw12_live.f kj14).bind fun t310 => (some t310)) else (none)) else (none))) = some r := by rw [if_pos rfl] at H; exact H
                        clear H
                        have H := H1
                        clear H1
                        by_cases c127 : a2 ≥ 0
                        · rw [if_pos c127] at H
                          have c127b0 : decide (0 ≤ a2) = true := decide_eq_true c127
                          clear c127
                          by_cases c128 : ((t285 == 0) == (decide (a2 < (l0.length : Int)))) = true
                          · rw [if_pos c128] at H
                            have c128b0 : ((t285 == 0) == (decide (a2 < (l0.length : Int)))) = true := c128
                            (try (have c128b1 : decide ((t285 == 0) = (decide (a2 < (l0.length : Int)))) = true := by simpa using c128))
                            (try (have c128b2 : ((t285 == 0) == (decide (a2 < (l0.length : Int)))) = true := by simpa using c128))
                            clear c128
                            by_cases c129 : ((t290 == 5) == (!(decide (a2 < (l0.length : Int))))) = true
                            · rw [if_pos c129] at H
                              have c129b0 : ((t290 == 5) == (!(decide (a2 < (l0.length : Int))))) = true := c129
                              (try (have c129b1 : decide ((t290 == 5) = (!(decide (a2 < (l0.length : Int))))) = true := by simpa using c129))
                              (try (have c129b2 : ((t290 == 5) == (!(decide (a2 < (l0.length : Int))))) = true := by simpa using c129))
                              clear c129
                              replace H := Option.bind_eq_some_iff.mp H
                              obtain ⟨t309, A1300, H⟩ := H
                              replace H : (some t309) = some r := H
                              have A130 := Aside0.mk A1300
                              clear A1300
                              obtain rfl := Option.some.inj H
                              obtain ⟨Ao131, co131, eo131⟩ := Kd.V_slice HO_7.out
                              subst eo131
                              go_wp2_with (first | (go_at_call 15; (with_reducible refine (batonref12_Same.calls kj14 _ _ t275 _ _ l0 true _ ?side1 ?side2 ?side3 ?side4 A110.out).mono ?_); (case side1 => repeat (first | exact (Kd.V_reads' HO_7.out).2.2 | (with_reducible refine Kd.C_alloc ?_ _) | (with_reducible refine Kd.C_drewN ?_ _) | (with_reducible refine Kd.C_drew ?_))); (case side2 => exact (Kd.V_reads' HO_7.out).2.1); (case side3 => repeat (first | exact (Kd.C_below HR0.out HB.out) | (with_reducible refine Kd.C_alloc ?_ _) | (with_reducible refine Kd.C_drewN ?_ _) | (with_reducible refine Kd.C_drew ?_))); (case side4 => exact HC0.out); rintro e w' ⟨rfl, ⟨nd, rfl⟩⟩; obtain ⟨Ao132, co132, eo132⟩ := Kd.V_slice HO_12.out; subst eo132) | (go_at_call 15; (with_reducible refine (batonref12_Same.calls kj14 _ _ t287 _ _ l0 true _ ?side1 ?side2 ?side3 ?side4 A125.out).mono ?_); (case side1 => repeat (first | exact (Kd.V_reads' HO_12.out).2.2 | (with_reducible refine Kd.C_alloc ?_ _) | (with_reducible refine Kd.C_drewN ?_ _) | (with_reducible refine Kd.C_drew ?_))); (case side2 => exact (Kd.V_reads' HO_12.out).2.1); (case side3 => repeat (first | exact (Kd.C_below HR0.out (by repeat (first | (with_reducible first | exact HB.out | apply below_alloc | apply pw_below_drewN | apply below_drew1 | refine below_set ?_ GE286.out) | exact HB.out))) | (with_reducible refine Kd.C_alloc ?_ _) | (with_reducible refine Kd.C_drewN ?_ _) | (with_reducible refine Kd.C_drew ?_))); (case side4 => exact HC0.out); rintro e w' ⟨rfl, ⟨nd, rfl⟩⟩) | (go_at_call 10; (with_reducible refine (batonlaw12_live.calls kj14  t309 _ A130.out).mono ?_); rintro e w133 ⟨rfl, hb⟩; have n0_ := Aside0.mk (Kd.V_below (by (with_reducible repeat (first | apply Kd.V_alloc | apply Kd.V_drewN | apply Kd.V_drew)); exact HO_7.out) hb); have n1_ := Aside0.mk (Kd.V_below (by (with_reducible repeat (first | apply Kd.V_alloc | apply Kd.V_drewN | apply Kd.V_drew)); exact HO_10.out) hb); have n2_ := Aside0.mk (Kd.V_below (by (with_reducible repeat (first | apply Kd.V_alloc | apply Kd.V_drewN | apply Kd.V_drew)); exact HO_12.out) hb); have n3_ := Aside0.mk (blk_below (g := gb286) (o := .cells #[.int .i64 t279, .int .i64 t280, .string t281] 31 (0, 0)) (by (with_reducible repeat (first | refine blk_drewN ?_ _ | refine blk_drew ?_ | refine blk_alloc ?_ _)); exact BK286.out) hb); have n4_ := Aside0.mk (below_step (by repeat (first | (with_reducible first | exact HB.out | apply below_alloc | apply pw_below_drewN | apply below_drew1 | refine below_set ?_ GE286.out) | exact HB.out)) hb); clear HO_7; clear HO_10; clear HO_12; clear BK286; clear HB; have HO_7 := n0_; have HO_10 := n1_; have HO_12 := n2_; have BK286 := n3_; have HB := n4_; clear n0_ n1_ n2_ n3_ n4_; (try clear hb); (try clear hb2); (try clear hk); (try clear hi)))
                              all_goals (go_ret; exact ⟨by first | rfl | (simp [errW_none, errW_some] <;> rfl) | (simp [*, errW_none, errW_some] <;> rfl) | (exfalso; simp_all <;> omega), by repeat (first | (with_reducible first | exact HB.out | apply below_alloc | apply pw_below_drewN | apply below_drew1 | refine below_set ?_ GE286.out) | exact HB.out)⟩)
                            · rw [if_neg c129] at H
                              exact absurd H (by simp)
                          · rw [if_neg c128] at H
                            exact absurd H (by simp)
                        · rw [if_neg c127] at H
                          have c127b0 : decide (0 ≤ a2) = false := decide_eq_false c127
                          clear c127
                          by_cases c134 : ((t285 == 0) == false) = true
                          · rw [if_pos c134] at H
                            have c134b0 : ((t285 == 0) == false) = true := c134
                            (try (have c134b1 : decide ((t285 == 0) = false) = true := by simpa using c134))
                            (try (have c134b2 : ((t285 == 0) == false) = true := by simpa using c134))
                            clear c134
                            by_cases c135 : ((t290 == 5) == (!false)) = true
                            · rw [if_pos c135] at H
                              have c135b0 : ((t290 == 5) == (!false)) = true := c135
                              (try (have c135b1 : decide ((t290 == 5) = (!false)) = true := by simpa using c135))
                              (try (have c135b2 : ((t290 == 5) == (!false)) = true := by simpa using c135))
                              clear c135
                              replace H := Option.bind_eq_some_iff.mp H
                              obtain ⟨t310, A1360, H⟩ := H
                              replace H : (some t310) = some r := H
                              have A136 := Aside0.mk A1360
                              clear A1360
                              obtain rfl := Option.some.inj H
                              obtain ⟨Ao137, co137, eo137⟩ := Kd.V_slice HO_7.out
                              subst eo137
                              go_wp2_with (first | (go_at_call 15; (with_reducible refine (batonref12_Same.calls kj14 _ _ t275 _ _ l0 true _ ?side1 ?side2 ?side3 ?side4 A110.out).mono ?_); (case side1 => repeat (first | exact (Kd.V_reads' HO_7.out).2.2 | (with_reducible refine Kd.C_alloc ?_ _) | (with_reducible refine Kd.C_drewN ?_ _) | (with_reducible refine Kd.C_drew ?_))); (case side2 => exact (Kd.V_reads' HO_7.out).2.1); (case side3 => repeat (first | exact (Kd.C_below HR0.out HB.out) | (with_reducible refine Kd.C_alloc ?_ _) | (with_reducible refine Kd.C_drewN ?_ _) | (with_reducible refine Kd.C_drew ?_))); (case side4 => exact HC0.out); rintro e w' ⟨rfl, ⟨nd, rfl⟩⟩; obtain ⟨Ao138, co138, eo138⟩ := Kd.V_slice HO_12.out; subst eo138) | (go_at_call 15; (with_reducible refine (batonref12_Same.calls kj14 _ _ t287 _ _ l0 true _ ?side1 ?side2 ?side3 ?side4 A125.out).mono ?_); (case side1 => repeat (first | exact (Kd.V_reads' HO_12.out).2.2 | (with_reducible refine Kd.C_alloc ?_ _) | (with_reducible refine Kd.C_drewN ?_ _) | (with_reducible refine Kd.C_drew ?_))); (case side2 => exact (Kd.V_reads' HO_12.out).2.1); (case side3 => repeat (first | exact (Kd.C_below HR0.out (by repeat (first | (with_reducible first | exact HB.out | apply below_alloc | apply pw_below_drewN | apply below_drew1 | refine below_set ?_ GE286.out) | exact HB.out))) | (with_reducible refine Kd.C_alloc ?_ _) | (with_reducible refine Kd.C_drewN ?_ _) | (with_reducible refine Kd.C_drew ?_))); (case side4 => exact HC0.out); rintro e w' ⟨rfl, ⟨nd, rfl⟩⟩) | (go_at_call 10; (with_reducible refine (batonlaw12_live.calls kj14  t310 _ A136.out).mono ?_); rintro e w139 ⟨rfl, hb⟩; have n0_ := Aside0.mk (Kd.V_below (by (with_reducible repeat (first | apply Kd.V_alloc | apply Kd.V_drewN | apply Kd.V_drew)); exact HO_7.out) hb); have n1_ := Aside0.mk (Kd.V_below (by (with_reducible repeat (first | apply Kd.V_alloc | apply Kd.V_drewN | apply Kd.V_drew)); exact HO_10.out) hb); have n2_ := Aside0.mk (Kd.V_below (by (with_reducible repeat (first | apply Kd.V_alloc | apply Kd.V_drewN | apply Kd.V_drew)); exact HO_12.out) hb); have n3_ := Aside0.mk (blk_below (g := gb286) (o := .cells #[.int .i64 t279, .int .i64 t280, .string t281] 31 (0, 0)) (by (with_reducible repeat (first | refine blk_drewN ?_ _ | refine blk_drew ?_ | refine blk_alloc ?_ _)); exact BK286.out) hb); have n4_ := Aside0.mk (below_step (by repeat (first | (with_reducible first | exact HB.out | apply below_alloc | apply pw_below_drewN | apply below_drew1 | refine below_set ?_ GE286.out) | exact HB.out)) hb); clear HO_7; clear HO_10; clear HO_12; clear BK286; clear HB; have HO_7 := n0_; have HO_10 := n1_; have HO_12 := n2_; have BK286 := n3_; have HB := n4_; clear n0_ n1_ n2_ n3_ n4_; (try clear hb); (try clear hb2); (try clear hk); (try clear hi)))
                              all_goals (go_ret; exact ⟨by first | rfl | (simp [errW_none, errW_some] <;> rfl) | (simp [*, errW_none, errW_some] <;> rfl) | (exfalso; simp_all <;> omega), by repeat (first | (with_reducible first | exact HB.out | apply below_alloc | apply pw_below_drewN | apply below_drew1 | refine below_set ?_ GE286.out) | exact HB.out)⟩)
                            · rw [if_neg c135] at H
                              exact absurd H (by simp)
                          · rw [if_neg c134] at H
                            exact absurd H (by simp)
                      · replace c126 := Bool.eq_false_iff.mpr c126
                        subst c126
                        have H1 : (none) = some r := by rw [if_neg (show ¬ (false = true) by decide)] at H; exact H
                        clear H
                        have H := H1
                        clear H1
                        exact absurd H (by simp)
                  · rw [if_neg c112] at H
                    have c112b0 : (t285 == 0) = false := beq_eq_false_iff_ne.mpr c112
                    have c112b1 : (t285 != 0) = true := bne_iff_ne.mpr c112
                    replace H := Option.bind_eq_some_iff.mp H
                    obtain ⟨t311, A1400, H⟩ := H
                    replace H : (if t311 = true then (if t290 = 0 then (if a2 ≥ 0 then (if ((t285 == 0) == (decide (a2 < (l0.length : Int)))) = true then (if ((t290 == 5) == (!(decide (a2 < (l0.length : Int))))) = true then ((batonlaw12_live.f kj14).bind fun t312 => (some t312)) else (none)) else (none)) else (if ((t285 == 0) == false) = true then (if ((t290 == 5) == (!false)) = true then ((batonlaw12_live.f kj14).bind fun t313 => (some t313)) else (none)) else (none))) else ((batonref12_Same.f kj14 t287 l0).bind fun t314 => (if t314 = true then (if a2 ≥ 0 then (if ((t285 == 0) == (decide (a2 < (l0.length : Int)))) = true then (if ((t290 == 5) == (!(decide (a2 < (l0.length : Int))))) = true then ((batonlaw12_live.f kj14).bind fun t315 => (some t315)) else (none)) else (none)) else (if ((t285 == 0) == false) = true then (if ((t290 == 5) == (!false)) = true then ((batonlaw12_live.f kj14).bind fun t316 => (some t316)) else (none)) else (none))) else (none)))) else (none)) = some r := H
                    have A140 := Aside0.mk A1400
                    clear A1400
                    by_cases c141 : t311 = true
                    · subst c141
                      have H1 : (if t290 = 0 then (if a2 ≥ 0 then (if ((t285 == 0) == (decide (a2 < (l0.length : Int)))) = true then (if ((t290 == 5) == (!(decide (a2 < (l0.length : Int))))) = true then ((batonlaw12_live.f kj14).bind fun t312 => (some t312)) else (none)) else (none)) else (if ((t285 == 0) == false) = true then (if ((t290 == 5) == (!false)) = true then ((batonlaw12_live.f kj14).bind fun t313 => (some t313)) else (none)) else (none))) else ((batonref12_Same.f kj14 t287 l0).bind fun t314 => (if t314 = true then (if a2 ≥ 0 then (if ((t285 == 0) == (decide (a2 < (l0.length : Int)))) = true then (if ((t290 == 5) == (!(decide (a2 < (l0.length : Int))))) = true then ((batonlaw12_live.f kj14).bind fun t315 => (some t315)) else (none)) else (none)) else (if ((t285 == 0) == false) = true then (if ((t290 == 5) == (!false)) = true then ((batonlaw12_live.f kj14).bind fun t316 => (some t316)) else (none)) else (none))) else (none)))) = some r := by rw [if_pos rfl] at H; exact H
                      clear H
                      have H := H1
                      clear H1
                      by_cases c142 : t290 = 0
                      · rw [if_pos c142] at H
                        have c142b0 : (t290 == 0) = true := beq_iff_eq.mpr c142
                        have c142b1 : (t290 != 0) = false := bne_eq_false_iff_eq.mpr c142
                        clear c142
                        by_cases c143 : a2 ≥ 0
                        · rw [if_pos c143] at H
                          have c143b0 : decide (0 ≤ a2) = true := decide_eq_true c143
                          clear c143
                          by_cases c144 : ((t285 == 0) == (decide (a2 < (l0.length : Int)))) = true
                          · rw [if_pos c144] at H
                            have c144b0 : ((t285 == 0) == (decide (a2 < (l0.length : Int)))) = true := c144
                            (try (have c144b1 : decide ((t285 == 0) = (decide (a2 < (l0.length : Int)))) = true := by simpa using c144))
                            (try (have c144b2 : ((t285 == 0) == (decide (a2 < (l0.length : Int)))) = true := by simpa using c144))
                            clear c144
                            by_cases c145 : ((t290 == 5) == (!(decide (a2 < (l0.length : Int))))) = true
                            · rw [if_pos c145] at H
                              have c145b0 : ((t290 == 5) == (!(decide (a2 < (l0.length : Int))))) = true := c145
                              (try (have c145b1 : decide ((t290 == 5) = (!(decide (a2 < (l0.length : Int))))) = true := by simpa using c145))
                              (try (have c145b2 : ((t290 == 5) == (!(decide (a2 < (l0.length : Int))))) = true := by simpa using c145))
                              clear c145
                              replace H := Option.bind_eq_some_iff.mp H
                              obtain ⟨t312, A1460, H⟩ := H
                              replace H : (some t312) = some r := H
                              have A146 := Aside0.mk A1460
                              clear A1460
                              obtain rfl := Option.some.inj H
                              obtain ⟨Ao147, co147, eo147⟩ := Kd.V_slice HO_7.out
                              subst eo147
                              go_wp2_with (first | (go_at_call 15; (with_reducible refine (batonref12_Same.calls kj14 _ _ t275 _ _ l0 true _ ?side1 ?side2 ?side3 ?side4 A110.out).mono ?_); (case side1 => repeat (first | exact (Kd.V_reads' HO_7.out).2.2 | (with_reducible refine Kd.C_alloc ?_ _) | (with_reducible refine Kd.C_drewN ?_ _) | (with_reducible refine Kd.C_drew ?_))); (case side2 => exact (Kd.V_reads' HO_7.out).2.1); (case side3 => repeat (first | exact (Kd.C_below HR0.out HB.out) | (with_reducible refine Kd.C_alloc ?_ _) | (with_reducible refine Kd.C_drewN ?_ _) | (with_reducible refine Kd.C_drew ?_))); (case side4 => exact HC0.out); rintro e w' ⟨rfl, ⟨nd, rfl⟩⟩; obtain ⟨Ao148, co148, eo148⟩ := Kd.V_slice HO_10.out; subst eo148) | (go_at_call 15; (with_reducible refine (batonref12_Same.calls kj14 _ _ t282 _ _ l0 true _ ?side1 ?side2 ?side3 ?side4 A140.out).mono ?_); (case side1 => repeat (first | exact (Kd.V_reads' HO_10.out).2.2 | (with_reducible refine Kd.C_alloc ?_ _) | (with_reducible refine Kd.C_drewN ?_ _) | (with_reducible refine Kd.C_drew ?_))); (case side2 => exact (Kd.V_reads' HO_10.out).2.1); (case side3 => repeat (first | exact (Kd.C_below HR0.out (by repeat (first | (with_reducible first | exact HB.out | apply below_alloc | apply pw_below_drewN | apply below_drew1 | refine below_set ?_ GE286.out) | exact HB.out))) | (with_reducible refine Kd.C_alloc ?_ _) | (with_reducible refine Kd.C_drewN ?_ _) | (with_reducible refine Kd.C_drew ?_))); (case side4 => exact HC0.out); rintro e w' ⟨rfl, ⟨nd, rfl⟩⟩) | (go_at_call 10; (with_reducible refine (batonlaw12_live.calls kj14  t312 _ A146.out).mono ?_); rintro e w149 ⟨rfl, hb⟩; have n0_ := Aside0.mk (Kd.V_below (by (with_reducible repeat (first | apply Kd.V_alloc | apply Kd.V_drewN | apply Kd.V_drew)); exact HO_7.out) hb); have n1_ := Aside0.mk (Kd.V_below (by (with_reducible repeat (first | apply Kd.V_alloc | apply Kd.V_drewN | apply Kd.V_drew)); exact HO_10.out) hb); have n2_ := Aside0.mk (Kd.V_below (by (with_reducible repeat (first | apply Kd.V_alloc | apply Kd.V_drewN | apply Kd.V_drew)); exact HO_12.out) hb); have n3_ := Aside0.mk (blk_below (g := gb286) (o := .cells #[.int .i64 t279, .int .i64 t280, .string t281] 31 (0, 0)) (by (with_reducible repeat (first | refine blk_drewN ?_ _ | refine blk_drew ?_ | refine blk_alloc ?_ _)); exact BK286.out) hb); have n4_ := Aside0.mk (below_step (by repeat (first | (with_reducible first | exact HB.out | apply below_alloc | apply pw_below_drewN | apply below_drew1 | refine below_set ?_ GE286.out) | exact HB.out)) hb); clear HO_7; clear HO_10; clear HO_12; clear BK286; clear HB; have HO_7 := n0_; have HO_10 := n1_; have HO_12 := n2_; have BK286 := n3_; have HB := n4_; clear n0_ n1_ n2_ n3_ n4_; (try clear hb); (try clear hb2); (try clear hk); (try clear hi)))
                              all_goals (go_ret; exact ⟨by first | rfl | (simp [errW_none, errW_some] <;> rfl) | (simp [*, errW_none, errW_some] <;> rfl) | (exfalso; simp_all <;> omega), by repeat (first | (with_reducible first | exact HB.out | apply below_alloc | apply pw_below_drewN | apply below_drew1 | refine below_set ?_ GE286.out) | exact HB.out)⟩)
                            · rw [if_neg c145] at H
                              exact absurd H (by simp)
                          · rw [if_neg c144] at H
                            exact absurd H (by simp)
                        · rw [if_neg c143] at H
                          have c143b0 : decide (0 ≤ a2) = false := decide_eq_false c143
                          clear c143
                          by_cases c150 : ((t285 == 0) == false) = true
                          · rw [if_pos c150] at H
                            have c150b0 : ((t285 == 0) == false) = true := c150
                            (try (have c150b1 : decide ((t285 == 0) = false) = true := by simpa using c150))
                            (try (have c150b2 : ((t285 == 0) == false) = true := by simpa using c150))
                            clear c150
                            by_cases c151 : ((t290 == 5) == (!false)) = true
                            · rw [if_pos c151] at H
                              have c151b0 : ((t290 == 5) == (!false)) = true := c151
                              (try (have c151b1 : decide ((t290 == 5) = (!false)) = true := by simpa using c151))
                              (try (have c151b2 : ((t290 == 5) == (!false)) = true := by simpa using c151))
                              clear c151
                              replace H := Option.bind_eq_some_iff.mp H
                              obtain ⟨t313, A1520, H⟩ := H
                              replace H : (some t313) = some r := H
                              have A152 := Aside0.mk A1520
                              clear A1520
                              obtain rfl := Option.some.inj H
                              obtain ⟨Ao153, co153, eo153⟩ := Kd.V_slice HO_7.out
                              subst eo153
                              go_wp2_with (first | (go_at_call 15; (with_reducible refine (batonref12_Same.calls kj14 _ _ t275 _ _ l0 true _ ?side1 ?side2 ?side3 ?side4 A110.out).mono ?_); (case side1 => repeat (first | exact (Kd.V_reads' HO_7.out).2.2 | (with_reducible refine Kd.C_alloc ?_ _) | (with_reducible refine Kd.C_drewN ?_ _) | (with_reducible refine Kd.C_drew ?_))); (case side2 => exact (Kd.V_reads' HO_7.out).2.1); (case side3 => repeat (first | exact (Kd.C_below HR0.out HB.out) | (with_reducible refine Kd.C_alloc ?_ _) | (with_reducible refine Kd.C_drewN ?_ _) | (with_reducible refine Kd.C_drew ?_))); (case side4 => exact HC0.out); rintro e w' ⟨rfl, ⟨nd, rfl⟩⟩; obtain ⟨Ao154, co154, eo154⟩ := Kd.V_slice HO_10.out; subst eo154) | (go_at_call 15; (with_reducible refine (batonref12_Same.calls kj14 _ _ t282 _ _ l0 true _ ?side1 ?side2 ?side3 ?side4 A140.out).mono ?_); (case side1 => repeat (first | exact (Kd.V_reads' HO_10.out).2.2 | (with_reducible refine Kd.C_alloc ?_ _) | (with_reducible refine Kd.C_drewN ?_ _) | (with_reducible refine Kd.C_drew ?_))); (case side2 => exact (Kd.V_reads' HO_10.out).2.1); (case side3 => repeat (first | exact (Kd.C_below HR0.out (by repeat (first | (with_reducible first | exact HB.out | apply below_alloc | apply pw_below_drewN | apply below_drew1 | refine below_set ?_ GE286.out) | exact HB.out))) | (with_reducible refine Kd.C_alloc ?_ _) | (with_reducible refine Kd.C_drewN ?_ _) | (with_reducible refine Kd.C_drew ?_))); (case side4 => exact HC0.out); rintro e w' ⟨rfl, ⟨nd, rfl⟩⟩) | (go_at_call 10; (with_reducible refine (batonlaw12_live.calls kj14  t313 _ A152.out).mono ?_); rintro e w155 ⟨rfl, hb⟩; have n0_ := Aside0.mk (Kd.V_below (by (with_reducible repeat (first | apply Kd.V_alloc | apply Kd.V_drewN | apply Kd.V_drew)); exact HO_7.out) hb); have n1_ := Aside0.mk (Kd.V_below (by (with_reducible repeat (first | apply Kd.V_alloc | apply Kd.V_drewN | apply Kd.V_drew)); exact HO_10.out) hb); have n2_ := Aside0.mk (Kd.V_below (by (with_reducible repeat (first | apply Kd.V_alloc | apply Kd.V_drewN | apply Kd.V_drew)); exact HO_12.out) hb); have n3_ := Aside0.mk (blk_below (g := gb286) (o := .cells #[.int .i64 t279, .int .i64 t280, .string t281] 31 (0, 0)) (by (with_reducible repeat (first | refine blk_drewN ?_ _ | refine blk_drew ?_ | refine blk_alloc ?_ _)); exact BK286.out) hb); have n4_ := Aside0.mk (below_step (by repeat (first | (with_reducible first | exact HB.out | apply below_alloc | apply pw_below_drewN | apply below_drew1 | refine below_set ?_ GE286.out) | exact HB.out)) hb); clear HO_7; clear HO_10; clear HO_12; clear BK286; clear HB; have HO_7 := n0_; have HO_10 := n1_; have HO_12 := n2_; have BK286 := n3_; have HB := n4_; clear n0_ n1_ n2_ n3_ n4_; (try clear hb); (try clear hb2); (try clear hk); (try clear hi)))
                              all_goals (go_ret; exact ⟨by first | rfl | (simp [errW_none, errW_some] <;> rfl) | (simp [*, errW_none, errW_some] <;> rfl) | (exfalso; simp_all <;> omega), by repeat (first | (with_reducible first | exact HB.out | apply below_alloc | apply pw_below_drewN | apply below_drew1 | refine below_set ?_ GE286.out) | exact HB.out)⟩)
                            · rw [if_neg c151] at H
                              exact absurd H (by simp)
                          · rw [if_neg c150] at H
                            exact absurd H (by simp)
                      · rw [if_neg c142] at H
                        have c142b0 : (t290 == 0) = false := beq_eq_false_iff_ne.mpr c142
                        have c142b1 : (t290 != 0) = true := bne_iff_ne.mpr c142
                        replace H := Option.bind_eq_some_iff.mp H
                        obtain ⟨t314, A1560, H⟩ := H
                        replace H : (if t314 = true then (if a2 ≥ 0 then (if ((t285 == 0) == (decide (a2 < (l0.length : Int)))) = true then (if ((t290 == 5) == (!(decide (a2 < (l0.length : Int))))) = true then ((batonlaw12_live.f kj14).bind fun t315 => (some t315)) else (none)) else (none)) else (if ((t285 == 0) == false) = true then (if ((t290 == 5) == (!false)) = true then ((batonlaw12_live.f kj14).bind fun t316 => (some t316)) else (none)) else (none))) else (none)) = some r := H
                        have A156 := Aside0.mk A1560
                        clear A1560
                        by_cases c157 : t314 = true
                        · subst c157
                          have H1 : (if a2 ≥ 0 then (if ((t285 == 0) == (decide (a2 < (l0.length : Int)))) = true then (if ((t290 == 5) == (!(decide (a2 < (l0.length : Int))))) = true then ((batonlaw12_live.f kj14).bind fun t315 => (some t315)) else (none)) else (none)) else (if ((t285 == 0) == false) = true then (if ((t290 == 5) == (!false)) = true then ((batonlaw12_live.f kj14).bind fun t316 => (some t316)) else (none)) else (none))) = some r := by rw [if_pos rfl] at H; exact H
                          clear H
                          have H := H1
                          clear H1
                          by_cases c158 : a2 ≥ 0
                          · rw [if_pos c158] at H
                            have c158b0 : decide (0 ≤ a2) = true := decide_eq_true c158
                            clear c158
                            by_cases c159 : ((t285 == 0) == (decide (a2 < (l0.length : Int)))) = true
                            · rw [if_pos c159] at H
                              have c159b0 : ((t285 == 0) == (decide (a2 < (l0.length : Int)))) = true := c159
                              (try (have c159b1 : decide ((t285 == 0) = (decide (a2 < (l0.length : Int)))) = true := by simpa using c159))
                              (try (have c159b2 : ((t285 == 0) == (decide (a2 < (l0.length : Int)))) = true := by simpa using c159))
                              clear c159
                              by_cases c160 : ((t290 == 5) == (!(decide (a2 < (l0.length : Int))))) = true
                              · rw [if_pos c160] at H
                                have c160b0 : ((t290 == 5) == (!(decide (a2 < (l0.length : Int))))) = true := c160
                                (try (have c160b1 : decide ((t290 == 5) = (!(decide (a2 < (l0.length : Int))))) = true := by simpa using c160))
                                (try (have c160b2 : ((t290 == 5) == (!(decide (a2 < (l0.length : Int))))) = true := by simpa using c160))
                                clear c160
                                replace H := Option.bind_eq_some_iff.mp H
                                obtain ⟨t315, A1610, H⟩ := H
                                replace H : (some t315) = some r := H
                                have A161 := Aside0.mk A1610
                                clear A1610
                                obtain rfl := Option.some.inj H
                                obtain ⟨Ao162, co162, eo162⟩ := Kd.V_slice HO_7.out
                                subst eo162
                                go_wp2_with (first | (go_at_call 15; (with_reducible refine (batonref12_Same.calls kj14 _ _ t275 _ _ l0 true _ ?side1 ?side2 ?side3 ?side4 A110.out).mono ?_); (case side1 => repeat (first | exact (Kd.V_reads' HO_7.out).2.2 | (with_reducible refine Kd.C_alloc ?_ _) | (with_reducible refine Kd.C_drewN ?_ _) | (with_reducible refine Kd.C_drew ?_))); (case side2 => exact (Kd.V_reads' HO_7.out).2.1); (case side3 => repeat (first | exact (Kd.C_below HR0.out HB.out) | (with_reducible refine Kd.C_alloc ?_ _) | (with_reducible refine Kd.C_drewN ?_ _) | (with_reducible refine Kd.C_drew ?_))); (case side4 => exact HC0.out); rintro e w' ⟨rfl, ⟨nd, rfl⟩⟩; obtain ⟨Ao163, co163, eo163⟩ := Kd.V_slice HO_10.out; subst eo163) | (go_at_call 15; (with_reducible refine (batonref12_Same.calls kj14 _ _ t282 _ _ l0 true _ ?side1 ?side2 ?side3 ?side4 A140.out).mono ?_); (case side1 => repeat (first | exact (Kd.V_reads' HO_10.out).2.2 | (with_reducible refine Kd.C_alloc ?_ _) | (with_reducible refine Kd.C_drewN ?_ _) | (with_reducible refine Kd.C_drew ?_))); (case side2 => exact (Kd.V_reads' HO_10.out).2.1); (case side3 => repeat (first | exact (Kd.C_below HR0.out (by repeat (first | (with_reducible first | exact HB.out | apply below_alloc | apply pw_below_drewN | apply below_drew1 | refine below_set ?_ GE286.out) | exact HB.out))) | (with_reducible refine Kd.C_alloc ?_ _) | (with_reducible refine Kd.C_drewN ?_ _) | (with_reducible refine Kd.C_drew ?_))); (case side4 => exact HC0.out); rintro e w' ⟨rfl, ⟨nd, rfl⟩⟩; obtain ⟨Ao164, co164, eo164⟩ := Kd.V_slice HO_12.out; subst eo164) | (go_at_call 15; (with_reducible refine (batonref12_Same.calls kj14 _ _ t287 _ _ l0 true _ ?side1 ?side2 ?side3 ?side4 A156.out).mono ?_); (case side1 => repeat (first | exact (Kd.V_reads' HO_12.out).2.2 | (with_reducible refine Kd.C_alloc ?_ _) | (with_reducible refine Kd.C_drewN ?_ _) | (with_reducible refine Kd.C_drew ?_))); (case side2 => exact (Kd.V_reads' HO_12.out).2.1); (case side3 => repeat (first | exact (Kd.C_below HR0.out (by repeat (first | (with_reducible first | exact HB.out | apply below_alloc | apply pw_below_drewN | apply below_drew1 | refine below_set ?_ GE286.out) | exact HB.out))) | (with_reducible refine Kd.C_alloc ?_ _) | (with_reducible refine Kd.C_drewN ?_ _) | (with_reducible refine Kd.C_drew ?_))); (case side4 => exact HC0.out); rintro e w' ⟨rfl, ⟨nd, rfl⟩⟩) | (go_at_call 10; (with_reducible refine (batonlaw12_live.calls kj14  t315 _ A161.out).mono ?_); rintro e w165 ⟨rfl, hb⟩; have n0_ := Aside0.mk (Kd.V_below (by (with_reducible repeat (first | apply Kd.V_alloc | apply Kd.V_drewN | apply Kd.V_drew)); exact HO_7.out) hb); have n1_ := Aside0.mk (Kd.V_below (by (with_reducible repeat (first | apply Kd.V_alloc | apply Kd.V_drewN | apply Kd.V_drew)); exact HO_10.out) hb); have n2_ := Aside0.mk (Kd.V_below (by (with_reducible repeat (first | apply Kd.V_alloc | apply Kd.V_drewN | apply Kd.V_drew)); exact HO_12.out) hb); have n3_ := Aside0.mk (blk_below (g := gb286) (o := .cells #[.int .i64 t279, .int .i64 t280, .string t281] 31 (0, 0)) (by (with_reducible repeat (first | refine blk_drewN ?_ _ | refine blk_drew ?_ | refine blk_alloc ?_ _)); exact BK286.out) hb); have n4_ := Aside0.mk (below_step (by repeat (first | (with_reducible first | exact HB.out | apply below_alloc | apply pw_below_drewN | apply below_drew1 | refine below_set ?_ GE286.out) | exact HB.out)) hb); clear HO_7; clear HO_10; clear HO_12; clear BK286; clear HB; have HO_7 := n0_; have HO_10 := n1_; have HO_12 := n2_; have BK286 := n3_; have HB := n4_; clear n0_ n1_ n2_ n3_ n4_; (try clear hb); (try clear hb2); (try clear hk); (try clear hi)))
                                all_goals (go_ret; exact ⟨by first | rfl | (simp [errW_none, errW_some] <;> rfl) | (simp [*, errW_none, errW_some] <;> rfl) | (exfalso; simp_all <;> omega), by repeat (first | (with_reducible first | exact HB.out | apply below_alloc | apply pw_below_drewN | apply below_drew1 | refine below_set ?_ GE286.out) | exact HB.out)⟩)
                              · rw [if_neg c160] at H
                                exact absurd H (by simp)
                            · rw [if_neg c159] at H
                              exact absurd H (by simp)
                          · rw [if_neg c158] at H
                            have c158b0 : decide (0 ≤ a2) = false := decide_eq_false c158
                            clear c158
                            by_cases c166 : ((t285 == 0) == false) = true
                            · rw [if_pos c166] at H
                              have c166b0 : ((t285 == 0) == false) = true := c166
                              (try (have c166b1 : decide ((t285 == 0) = false) = true := by simpa using c166))
                              (try (have c166b2 : ((t285 == 0) == false) = true := by simpa using c166))
                              clear c166
                              by_cases c167 : ((t290 == 5) == (!false)) = true
                              · rw [if_pos c167] at H
                                have c167b0 : ((t290 == 5) == (!false)) = true := c167
                                (try (have c167b1 : decide ((t290 == 5) = (!false)) = true := by simpa using c167))
                                (try (have c167b2 : ((t290 == 5) == (!false)) = true := by simpa using c167))
                                clear c167
                                replace H := Option.bind_eq_some_iff.mp H
                                obtain ⟨t316, A1680, H⟩ := H
                                replace H : (some t316) = some r := H
                                have A168 := Aside0.mk A1680
                                clear A1680
                                obtain rfl := Option.some.inj H
                                obtain ⟨Ao169, co169, eo169⟩ := Kd.V_slice HO_7.out
                                subst eo169
                                go_wp2_with (first | (go_at_call 15; (with_reducible refine (batonref12_Same.calls kj14 _ _ t275 _ _ l0 true _ ?side1 ?side2 ?side3 ?side4 A110.out).mono ?_); (case side1 => repeat (first | exact (Kd.V_reads' HO_7.out).2.2 | (with_reducible refine Kd.C_alloc ?_ _) | (with_reducible refine Kd.C_drewN ?_ _) | (with_reducible refine Kd.C_drew ?_))); (case side2 => exact (Kd.V_reads' HO_7.out).2.1); (case side3 => repeat (first | exact (Kd.C_below HR0.out HB.out) | (with_reducible refine Kd.C_alloc ?_ _) | (with_reducible refine Kd.C_drewN ?_ _) | (with_reducible refine Kd.C_drew ?_))); (case side4 => exact HC0.out); rintro e w' ⟨rfl, ⟨nd, rfl⟩⟩; obtain ⟨Ao170, co170, eo170⟩ := Kd.V_slice HO_10.out; subst eo170) | (go_at_call 15; (with_reducible refine (batonref12_Same.calls kj14 _ _ t282 _ _ l0 true _ ?side1 ?side2 ?side3 ?side4 A140.out).mono ?_); (case side1 => repeat (first | exact (Kd.V_reads' HO_10.out).2.2 | (with_reducible refine Kd.C_alloc ?_ _) | (with_reducible refine Kd.C_drewN ?_ _) | (with_reducible refine Kd.C_drew ?_))); (case side2 => exact (Kd.V_reads' HO_10.out).2.1); (case side3 => repeat (first | exact (Kd.C_below HR0.out (by repeat (first | (with_reducible first | exact HB.out | apply below_alloc | apply pw_below_drewN | apply below_drew1 | refine below_set ?_ GE286.out) | exact HB.out))) | (with_reducible refine Kd.C_alloc ?_ _) | (with_reducible refine Kd.C_drewN ?_ _) | (with_reducible refine Kd.C_drew ?_))); (case side4 => exact HC0.out); rintro e w' ⟨rfl, ⟨nd, rfl⟩⟩; obtain ⟨Ao171, co171, eo171⟩ := Kd.V_slice HO_12.out; subst eo171) | (go_at_call 15; (with_reducible refine (batonref12_Same.calls kj14 _ _ t287 _ _ l0 true _ ?side1 ?side2 ?side3 ?side4 A156.out).mono ?_); (case side1 => repeat (first | exact (Kd.V_reads' HO_12.out).2.2 | (with_reducible refine Kd.C_alloc ?_ _) | (with_reducible refine Kd.C_drewN ?_ _) | (with_reducible refine Kd.C_drew ?_))); (case side2 => exact (Kd.V_reads' HO_12.out).2.1); (case side3 => repeat (first | exact (Kd.C_below HR0.out (by repeat (first | (with_reducible first | exact HB.out | apply below_alloc | apply pw_below_drewN | apply below_drew1 | refine below_set ?_ GE286.out) | exact HB.out))) | (with_reducible refine Kd.C_alloc ?_ _) | (with_reducible refine Kd.C_drewN ?_ _) | (with_reducible refine Kd.C_drew ?_))); (case side4 => exact HC0.out); rintro e w' ⟨rfl, ⟨nd, rfl⟩⟩) | (go_at_call 10; (with_reducible refine (batonlaw12_live.calls kj14  t316 _ A168.out).mono ?_); rintro e w172 ⟨rfl, hb⟩; have n0_ := Aside0.mk (Kd.V_below (by (with_reducible repeat (first | apply Kd.V_alloc | apply Kd.V_drewN | apply Kd.V_drew)); exact HO_7.out) hb); have n1_ := Aside0.mk (Kd.V_below (by (with_reducible repeat (first | apply Kd.V_alloc | apply Kd.V_drewN | apply Kd.V_drew)); exact HO_10.out) hb); have n2_ := Aside0.mk (Kd.V_below (by (with_reducible repeat (first | apply Kd.V_alloc | apply Kd.V_drewN | apply Kd.V_drew)); exact HO_12.out) hb); have n3_ := Aside0.mk (blk_below (g := gb286) (o := .cells #[.int .i64 t279, .int .i64 t280, .string t281] 31 (0, 0)) (by (with_reducible repeat (first | refine blk_drewN ?_ _ | refine blk_drew ?_ | refine blk_alloc ?_ _)); exact BK286.out) hb); have n4_ := Aside0.mk (below_step (by repeat (first | (with_reducible first | exact HB.out | apply below_alloc | apply pw_below_drewN | apply below_drew1 | refine below_set ?_ GE286.out) | exact HB.out)) hb); clear HO_7; clear HO_10; clear HO_12; clear BK286; clear HB; have HO_7 := n0_; have HO_10 := n1_; have HO_12 := n2_; have BK286 := n3_; have HB := n4_; clear n0_ n1_ n2_ n3_ n4_; (try clear hb); (try clear hb2); (try clear hk); (try clear hi)))
                                all_goals (go_ret; exact ⟨by first | rfl | (simp [errW_none, errW_some] <;> rfl) | (simp [*, errW_none, errW_some] <;> rfl) | (exfalso; simp_all <;> omega), by repeat (first | (with_reducible first | exact HB.out | apply below_alloc | apply pw_below_drewN | apply below_drew1 | refine below_set ?_ GE286.out) | exact HB.out)⟩)
                              · rw [if_neg c167] at H
                                exact absurd H (by simp)
                            · rw [if_neg c166] at H
                              exact absurd H (by simp)
                        · replace c157 := Bool.eq_false_iff.mpr c157
                          subst c157
                          have H1 : (none) = some r := by rw [if_neg (show ¬ (false = true) by decide)] at H; exact H
                          clear H
                          have H := H1
                          clear H1
                          exact absurd H (by simp)
                    · replace c141 := Bool.eq_false_iff.mpr c141
                      subst c141
                      have H1 : (none) = some r := by rw [if_neg (show ¬ (false = true) by decide)] at H; exact H
                      clear H
                      have H := H1
                      clear H1
                      exact absurd H (by simp)
                · replace c111 := Bool.eq_false_iff.mpr c111
                  subst c111
                  have H1 : (none) = some r := by rw [if_neg (show ¬ (false = true) by decide)] at H; exact H
                  clear H
                  have H := H1
                  clear H1
                  exact absurd H (by simp)

end Go.Proofs.Ytfdfilgohcbgfaa.PM
