-- made by a program of this session (wip/tools/myprint.py over the kit's print) out of the translation; Lean checks it
import Derived.Test.YtfdfilgohcbgfaaPM0
import Derived.Test.YtfdfilgohcbgfaaPM1
import Derived.Test.YtfdfilgohcbgfaaPM3
import Derived.Test.YtfdfilgohcbgfaaPM9
import Derived.Test.YtfdfilgohcbgfaaPM10
import Derived.Test.YtfdfilgohcbgfaaPM11
namespace Go.Proofs.Ytfdfilgohcbgfaa.PM
open Go.RowKit Go.Proofs.YtfdfilgohcbgfaaW.PrintWords Go.Proofs.YtfdfilgohcbgfaaW.PrintLast Go.Proofs.YtfdfilgohcbgfaaW.PrintMore
attribute [local go_sem] max2_int min2_int max_two min_two max_three min_three max_four min_four   -- for this text's walks alone
set_option linter.unusedVariables false
set_option linter.unusedSimpArgs false

attribute [local go_sem high] eqA31
/-! ### batonlaw12_BagCounts: function 7 -/
mutual
def batonlaw12_BagCounts.l0 : Nat → List (S31) → Int → List (S31) → Int → List Int → List Int → Int → Int → Int → Int → Int → ByteArray → Option (Bool)
  | 0, _, _, _, _, _, _, _, _, _, _, _, _ => none
  | k + 1, x0, x1, x8, x9, x10, x11, x12, x358000, x358001, x368000, x368001, x368002 => if x12 < (x10.length : Int) then (if 0 ≤ x12 then (if (rd x10 x12) < 0 then (none) else (if (rd x10 x12) ≥ (x0.length : Int) then (none) else (if 0 ≤ (rd x10 x12) then (if (rd x10 x12) < (x0.length : Int) then (if ((rd_T31 x0 (rd x10 x12)).f0) = x358000 then (if ((rd_T31 x0 (rd x10 x12)).f1) = x358001 then (if x12 > 0 then (if 0 ≤ (wrap64 (x12 - 1)) then (if (wrap64 (x12 - 1)) < (x10.length : Int) then (if (rd x10 (wrap64 (x12 - 1))) ≥ (rd x10 x12) then (none) else (batonlaw12_BagCounts.l0 k x0 x1 x8 x9 x10 x11 (wrap64 (x12 + 1)) x358000 x358001 x368000 x368001 x368002)) else (none)) else (none)) else (batonlaw12_BagCounts.l0 k x0 x1 x8 x9 x10 x11 (wrap64 (x12 + 1)) x358000 x358001 x368000 x368001 x368002)) else (none)) else (none)) else (none)) else (none)))) else (none)) else (if x9 = 0 then (if x368000 = x358000 then (batonlaw12_BagCounts.j1 k x0 x1 x8 x9 x10 x11 0 (x368001 == x358001)) else (batonlaw12_BagCounts.j1 k x0 x1 x8 x9 x10 x11 0 false)) else (batonlaw12_BagCounts.j1 k x0 x1 x8 x9 x10 x11 0 false))
def batonlaw12_BagCounts.j1 : Nat → List (S31) → Int → List (S31) → Int → List Int → List Int → Int → Bool → Option (Bool)
  | 0, _, _, _, _, _, _, _, _ => none
  | k + 1, x0, x1, x8, x9, x10, x11, x13, x116 => if x116 = true then (batonlaw12_BagCounts.j2 k x0 x1 x8 x9 x10 x11 1) else (batonlaw12_BagCounts.j2 k x0 x1 x8 x9 x10 x11 x13)
def batonlaw12_BagCounts.j2 : Nat → List (S31) → Int → List (S31) → Int → List Int → List Int → Int → Option (Bool)
  | 0, _, _, _, _, _, _, _ => none
  | k + 1, x0, x1, x8, x9, x10, x11, x13 => if (x11.length : Int) = (wrap64 ((x10.length : Int) - x13)) then (batonlaw12_BagCounts.l1 k x0 x1 x8 x9 0 0) else (none)
def batonlaw12_BagCounts.l1 : Nat → List (S31) → Int → List (S31) → Int → Int → Int → Option (Bool)
  | 0, _, _, _, _, _, _ => none
  | k + 1, x0, x1, x8, x9, x14, x15 => if x15 < (x0.length : Int) then (if x9 = 0 then (batonlaw12_BagCounts.j4 k x0 x1 x8 x9 x14 x15 (x15 == x1)) else (batonlaw12_BagCounts.j4 k x0 x1 x8 x9 x14 x15 false)) else (if x14 = (x8.length : Int) then ((batonlaw12_live.f k).bind fun t382 => (some t382)) else (none))
def batonlaw12_BagCounts.j4 : Nat → List (S31) → Int → List (S31) → Int → Int → Int → Bool → Option (Bool)
  | 0, _, _, _, _, _, _, _ => none
  | k + 1, x0, x1, x8, x9, x14, x15, x136 => if x136 = true then (batonlaw12_BagCounts.l1 k x0 x1 x8 x9 x14 (wrap64 (x15 + 1))) else (if x14 ≥ (x8.length : Int) then (none) else (if 0 ≤ x14 then (if x14 < (x8.length : Int) then (if 0 ≤ x15 then (if x15 < (x0.length : Int) then (if (!(((rd_T31 x8 x14).f0) == ((rd_T31 x0 x15).f0)) || (!(((rd_T31 x8 x14).f1) == ((rd_T31 x0 x15).f1)) || (!((((rd_T31 x8 x14).f2).toList) == (((rd_T31 x0 x15).f2).toList))))) = true then (none) else (batonlaw12_BagCounts.l1 k x0 x1 x8 x9 (wrap64 (x14 + 1)) (wrap64 (x15 + 1)))) else (none)) else (none)) else (none)) else (none)))
end
def batonlaw12_BagCounts.f (k : Nat) (l0 : List (S31)) (a1 : Int) (a2_0 : Int) (a2_1 : Int) : Option (Bool) := (batonlaw12_few.f l0 ([] : List (S31))).bind fun t358 => (if t358 = true then ((bag_Take.f l0 a1).bind fun bt360 => ((bag_Between.f k l0 a2_0 a2_1).bind fun t368 => ((bag_Between.f k bt360.2.2.2.1 a2_0 a2_1).bind fun t371 => (batonlaw12_BagCounts.l0 k l0 a1 bt360.2.2.2.1 bt360.2.2.2.2 t368 t371 0 a2_0 a2_1 bt360.1 bt360.2.1 bt360.2.2.1)))) else ((batonlaw12_live.f k).bind fun t359 => (some t359)))
theorem batonlaw12_BagCounts.mono_l : ∀ k, (∀ y0 y1 y2 y3 y4 y5 y6 y7 y8 y9 y10 y11, LeO (batonlaw12_BagCounts.l0 k y0 y1 y2 y3 y4 y5 y6 y7 y8 y9 y10 y11) (batonlaw12_BagCounts.l0 (k + 1) y0 y1 y2 y3 y4 y5 y6 y7 y8 y9 y10 y11)) ∧ (∀ y0 y1 y2 y3 y4 y5 y6 y7, LeO (batonlaw12_BagCounts.j1 k y0 y1 y2 y3 y4 y5 y6 y7) (batonlaw12_BagCounts.j1 (k + 1) y0 y1 y2 y3 y4 y5 y6 y7)) ∧ (∀ y0 y1 y2 y3 y4 y5 y6, LeO (batonlaw12_BagCounts.j2 k y0 y1 y2 y3 y4 y5 y6) (batonlaw12_BagCounts.j2 (k + 1) y0 y1 y2 y3 y4 y5 y6)) ∧ (∀ y0 y1 y2 y3 y4 y5, LeO (batonlaw12_BagCounts.l1 k y0 y1 y2 y3 y4 y5) (batonlaw12_BagCounts.l1 (k + 1) y0 y1 y2 y3 y4 y5)) ∧ (∀ y0 y1 y2 y3 y4 y5 y6, LeO (batonlaw12_BagCounts.j4 k y0 y1 y2 y3 y4 y5 y6) (batonlaw12_BagCounts.j4 (k + 1) y0 y1 y2 y3 y4 y5 y6))
  | 0 => ⟨fun _ _ _ _ _ _ _ _ _ _ _ _ r h => by simp [batonlaw12_BagCounts.l0] at h, fun _ _ _ _ _ _ _ _ r h => by simp [batonlaw12_BagCounts.j1] at h, fun _ _ _ _ _ _ _ r h => by simp [batonlaw12_BagCounts.j2] at h, fun _ _ _ _ _ _ r h => by simp [batonlaw12_BagCounts.l1] at h, fun _ _ _ _ _ _ _ r h => by simp [batonlaw12_BagCounts.j4] at h⟩
  | k + 1 => by
    obtain ⟨ih0, ih1, ih2, ih3, ih4⟩ := batonlaw12_BagCounts.mono_l k
    refine ⟨?_, ?_, ?_, ?_, ?_⟩
    · intro y0 y1 y2 y3 y4 y5 y6 y7 y8 y9 y10 y11
      unfold batonlaw12_BagCounts.l0
      repeat' first
      | (with_reducible exact ih0 _ _ _ _ _ _ _ _ _ _ _ _)
      | (with_reducible exact ih1 _ _ _ _ _ _ _ _)
      | (with_reducible exact ih2 _ _ _ _ _ _ _)
      | (with_reducible exact ih3 _ _ _ _ _ _)
      | (with_reducible exact ih4 _ _ _ _ _ _ _)
      | (with_reducible exact bag_Between.mono _ _ _ _)
      | (with_reducible exact batonlaw12_live.mono _)
      | (with_reducible exact LeO.refl _)
      | (with_reducible exact LeO.none _)
      | (with_reducible refine LeO.ite ?_ ?_)
      | (with_reducible refine LeO.bind ?_ (fun _ => ?_))
      | exact ih0 _ _ _ _ _ _ _ _ _ _ _ _
      | exact ih1 _ _ _ _ _ _ _ _
      | exact ih2 _ _ _ _ _ _ _
      | exact ih3 _ _ _ _ _ _
      | exact ih4 _ _ _ _ _ _ _
      | exact bag_Between.mono _ _ _ _
      | exact batonlaw12_live.mono _
      | exact LeO.none _
      | refine LeO.ite ?_ ?_
      | refine LeO.bind ?_ (fun _ => ?_)
    · intro y0 y1 y2 y3 y4 y5 y6 y7
      unfold batonlaw12_BagCounts.j1
      repeat' first
      | (with_reducible exact ih0 _ _ _ _ _ _ _ _ _ _ _ _)
      | (with_reducible exact ih1 _ _ _ _ _ _ _ _)
      | (with_reducible exact ih2 _ _ _ _ _ _ _)
      | (with_reducible exact ih3 _ _ _ _ _ _)
      | (with_reducible exact ih4 _ _ _ _ _ _ _)
      | (with_reducible exact bag_Between.mono _ _ _ _)
      | (with_reducible exact batonlaw12_live.mono _)
      | (with_reducible exact LeO.refl _)
      | (with_reducible exact LeO.none _)
      | (with_reducible refine LeO.ite ?_ ?_)
      | (with_reducible refine LeO.bind ?_ (fun _ => ?_))
      | exact ih0 _ _ _ _ _ _ _ _ _ _ _ _
      | exact ih1 _ _ _ _ _ _ _ _
      | exact ih2 _ _ _ _ _ _ _
      | exact ih3 _ _ _ _ _ _
      | exact ih4 _ _ _ _ _ _ _
      | exact bag_Between.mono _ _ _ _
      | exact batonlaw12_live.mono _
      | exact LeO.none _
      | refine LeO.ite ?_ ?_
      | refine LeO.bind ?_ (fun _ => ?_)
    · intro y0 y1 y2 y3 y4 y5 y6
      unfold batonlaw12_BagCounts.j2
      repeat' first
      | (with_reducible exact ih0 _ _ _ _ _ _ _ _ _ _ _ _)
      | (with_reducible exact ih1 _ _ _ _ _ _ _ _)
      | (with_reducible exact ih2 _ _ _ _ _ _ _)
      | (with_reducible exact ih3 _ _ _ _ _ _)
      | (with_reducible exact ih4 _ _ _ _ _ _ _)
      | (with_reducible exact bag_Between.mono _ _ _ _)
      | (with_reducible exact batonlaw12_live.mono _)
      | (with_reducible exact LeO.refl _)
      | (with_reducible exact LeO.none _)
      | (with_reducible refine LeO.ite ?_ ?_)
      | (with_reducible refine LeO.bind ?_ (fun _ => ?_))
      | exact ih0 _ _ _ _ _ _ _ _ _ _ _ _
      | exact ih1 _ _ _ _ _ _ _ _
      | exact ih2 _ _ _ _ _ _ _
      | exact ih3 _ _ _ _ _ _
      | exact ih4 _ _ _ _ _ _ _
      | exact bag_Between.mono _ _ _ _
      | exact batonlaw12_live.mono _
      | exact LeO.none _
      | refine LeO.ite ?_ ?_
      | refine LeO.bind ?_ (fun _ => ?_)
    · intro y0 y1 y2 y3 y4 y5
      unfold batonlaw12_BagCounts.l1
      repeat' first
      | (with_reducible exact ih0 _ _ _ _ _ _ _ _ _ _ _ _)
      | (with_reducible exact ih1 _ _ _ _ _ _ _ _)
      | (with_reducible exact ih2 _ _ _ _ _ _ _)
      | (with_reducible exact ih3 _ _ _ _ _ _)
      | (with_reducible exact ih4 _ _ _ _ _ _ _)
      | (with_reducible exact bag_Between.mono _ _ _ _)
      | (with_reducible exact batonlaw12_live.mono _)
      | (with_reducible exact LeO.refl _)
      | (with_reducible exact LeO.none _)
      | (with_reducible refine LeO.ite ?_ ?_)
      | (with_reducible refine LeO.bind ?_ (fun _ => ?_))
      | exact ih0 _ _ _ _ _ _ _ _ _ _ _ _
      | exact ih1 _ _ _ _ _ _ _ _
      | exact ih2 _ _ _ _ _ _ _
      | exact ih3 _ _ _ _ _ _
      | exact ih4 _ _ _ _ _ _ _
      | exact bag_Between.mono _ _ _ _
      | exact batonlaw12_live.mono _
      | exact LeO.none _
      | refine LeO.ite ?_ ?_
      | refine LeO.bind ?_ (fun _ => ?_)
    · intro y0 y1 y2 y3 y4 y5 y6
      unfold batonlaw12_BagCounts.j4
      repeat' first
      | (with_reducible exact ih0 _ _ _ _ _ _ _ _ _ _ _ _)
      | (with_reducible exact ih1 _ _ _ _ _ _ _ _)
      | (with_reducible exact ih2 _ _ _ _ _ _ _)
      | (with_reducible exact ih3 _ _ _ _ _ _)
      | (with_reducible exact ih4 _ _ _ _ _ _ _)
      | (with_reducible exact bag_Between.mono _ _ _ _)
      | (with_reducible exact batonlaw12_live.mono _)
      | (with_reducible exact LeO.refl _)
      | (with_reducible exact LeO.none _)
      | (with_reducible refine LeO.ite ?_ ?_)
      | (with_reducible refine LeO.bind ?_ (fun _ => ?_))
      | exact ih0 _ _ _ _ _ _ _ _ _ _ _ _
      | exact ih1 _ _ _ _ _ _ _ _
      | exact ih2 _ _ _ _ _ _ _
      | exact ih3 _ _ _ _ _ _
      | exact ih4 _ _ _ _ _ _ _
      | exact bag_Between.mono _ _ _ _
      | exact batonlaw12_live.mono _
      | exact LeO.none _
      | refine LeO.ite ?_ ?_
      | refine LeO.bind ?_ (fun _ => ?_)
theorem batonlaw12_BagCounts.mono : ∀ a0 a1 a2 a3 k, LeO (batonlaw12_BagCounts.f k a0 a1 a2 a3) (batonlaw12_BagCounts.f (k + 1) a0 a1 a2 a3) := by
  intro a0 a1 a2 a3 k
  obtain ⟨ih0, ih1, ih2, ih3, ih4⟩ := batonlaw12_BagCounts.mono_l k
  unfold batonlaw12_BagCounts.f
  repeat' first
      | (with_reducible exact ih0 _ _ _ _ _ _ _ _ _ _ _ _)
      | (with_reducible exact ih1 _ _ _ _ _ _ _ _)
      | (with_reducible exact ih2 _ _ _ _ _ _ _)
      | (with_reducible exact ih3 _ _ _ _ _ _)
      | (with_reducible exact ih4 _ _ _ _ _ _ _)
      | (with_reducible exact bag_Between.mono _ _ _ _)
      | (with_reducible exact batonlaw12_live.mono _)
      | (with_reducible exact LeO.refl _)
      | (with_reducible exact LeO.none _)
      | (with_reducible refine LeO.ite ?_ ?_)
      | (with_reducible refine LeO.bind ?_ (fun _ => ?_))
      | exact ih0 _ _ _ _ _ _ _ _ _ _ _ _
      | exact ih1 _ _ _ _ _ _ _ _
      | exact ih2 _ _ _ _ _ _ _
      | exact ih3 _ _ _ _ _ _
      | exact ih4 _ _ _ _ _ _ _
      | exact bag_Between.mono _ _ _ _
      | exact batonlaw12_live.mono _
      | exact LeO.none _
      | refine LeO.ite ?_ ?_
      | refine LeO.bind ?_ (fun _ => ?_)
set_option maxHeartbeats 8000000 in
set_option maxRecDepth 100000 in
theorem batonlaw12_BagCounts.calls (k : Nat) (A0 : Option Addr) (c0 : Nat) (l0 : List (S31)) (a1 : Int) (a2_0 : Int) (a2_1 : Int) (r : Bool) (w : World) (hr0 : Kd.C k31 w A0 l0.length l0) (hc0 : l0.length ≤ c0) (h : batonlaw12_BagCounts.f k l0 a1 a2_0 a2_1 = some r) :
    Calls Try.prog 7 #[.slice A0 l0.length c0, .int .i64 a1, .agg #[.int .i64 a2_0, .int .i64 a2_1]] w fun e w' => e = .returned (.bool r) ∧ Below w.heap.size w w' := by
  have hu29 := Try.underlying29
  have hu31 := Try.underlying31
  have HR0 := Aside0.mk hr0
  have HC0 := Aside0.mk hc0
  clear hr0 hc0
  have HB := Aside0.mk (Below.refl w.heap.size w)
  have H : ((batonlaw12_few.f l0 ([] : List (S31))).bind fun t358 => (if t358 = true then ((bag_Take.f l0 a1).bind fun bt360 => ((bag_Between.f k l0 a2_0 a2_1).bind fun t368 => ((bag_Between.f k bt360.2.2.2.1 a2_0 a2_1).bind fun t371 => (batonlaw12_BagCounts.l0 k l0 a1 bt360.2.2.2.1 bt360.2.2.2.2 t368 t371 0 a2_0 a2_1 bt360.1 bt360.2.1 bt360.2.2.1)))) else ((batonlaw12_live.f k).bind fun t359 => (some t359)))) = some r := h
  clear h
  replace H := Option.bind_eq_some_iff.mp H
  obtain ⟨t358, A40, H⟩ := H
  replace H : (if t358 = true then ((bag_Take.f l0 a1).bind fun bt360 => ((bag_Between.f k l0 a2_0 a2_1).bind fun t368 => ((bag_Between.f k bt360.2.2.2.1 a2_0 a2_1).bind fun t371 => (batonlaw12_BagCounts.l0 k l0 a1 bt360.2.2.2.1 bt360.2.2.2.2 t368 t371 0 a2_0 a2_1 bt360.1 bt360.2.1 bt360.2.2.1)))) else ((batonlaw12_live.f k).bind fun t359 => (some t359))) = some r := H
  have A4 := Aside0.mk A40
  clear A40
  by_cases c5 : t358 = true
  · subst c5
    have H1 : ((bag_Take.f l0 a1).bind fun bt360 => ((bag_Between.f k l0 a2_0 a2_1).bind fun t368 => ((bag_Between.f k bt360.2.2.2.1 a2_0 a2_1).bind fun t371 => (batonlaw12_BagCounts.l0 k l0 a1 bt360.2.2.2.1 bt360.2.2.2.2 t368 t371 0 a2_0 a2_1 bt360.1 bt360.2.1 bt360.2.2.1)))) = some r := by rw [if_pos rfl] at H; exact H
    clear H
    have H := H1
    clear H1
    replace H := Option.bind_eq_some_iff.mp H
    obtain ⟨⟨t360, t361, t362, t363, t366⟩, A60, H⟩ := H
    replace H : ((bag_Between.f k l0 a2_0 a2_1).bind fun t368 => ((bag_Between.f k t363 a2_0 a2_1).bind fun t371 => (batonlaw12_BagCounts.l0 k l0 a1 t363 t366 t368 t371 0 a2_0 a2_1 t360 t361 t362))) = some r := H
    have A6 := Aside0.mk A60
    clear A60
    replace H := Option.bind_eq_some_iff.mp H
    obtain ⟨t368, A70, H⟩ := H
    replace H : ((bag_Between.f k t363 a2_0 a2_1).bind fun t371 => (batonlaw12_BagCounts.l0 k l0 a1 t363 t366 t368 t371 0 a2_0 a2_1 t360 t361 t362)) = some r := H
    have A7 := Aside0.mk A70
    clear A70
    replace H := Option.bind_eq_some_iff.mp H
    obtain ⟨t371, A80, H⟩ := H
    replace H : (batonlaw12_BagCounts.l0 k l0 a1 t363 t366 t368 t371 0 a2_0 a2_1 t360 t361 t362) = some r := H
    have A8 := Aside0.mk A80
    clear A80
    have H' := Aside0.mk H
    clear H
    go_enter Try.func7, Try.ntmps7
    go_wp2_with (first | ((with_reducible refine gate_dst (N := 5) rfl ?_); (try (refine gate_guard (by rfl) ?_; dsimp only)); refine box_event ?hg (N := 5) ?hd (cs := #[.int .i64 a2_0, .int .i64 a2_1]) (t := 29) ?hr ?_; (case hd => rfl); (case hg => rfl); (case hr => first | (go_simp; done) | (go_simp; rfl)); intro gb357 hg w9 hbox hb; have n0_ := Aside0.mk (below_step (by repeat (first | (with_reducible first | exact HB.out | apply below_alloc | apply pw_below_drewN | apply below_drew1) | exact HB.out)) hb); have n1_ := Aside0.mk (hbox); have n2_ := Aside0.mk ((by rw [hg]; exact (below_size (by repeat (first | (with_reducible first | exact HB.out | apply below_alloc | apply pw_below_drewN | apply below_drew1) | exact HB.out))) : w.heap.size ≤ gb357)); have n3_ := Aside0.mk ((by rw [hg]; exact (below_size (by repeat (first | (with_reducible first | exact HB.out | apply below_alloc | apply pw_below_drewN | apply below_drew1) | exact HB.out))) : w.heap.size ≤ gb357)); clear HB; have HB := n0_; have BK357 := n1_; have GW357 := n2_; have GE357 := n3_; clear n0_ n1_ n2_ n3_; clear hb hbox hg) | (go_at_call 9; (refine (batonlaw12_few.calls _ _ l0 _ _ ([] : List (S31)) true _ ?side1 ?side2 ?side3 ?side4 A4.out).mono ?_); (case side1 => repeat (first | exact (Kd.C_below HR0.out HB.out) | (with_reducible refine Kd.C_alloc ?_ _) | (with_reducible refine Kd.C_drewN ?_ _) | (with_reducible refine Kd.C_drew ?_))); (case side2 => exact HC0.out); (case side3 => exact Kd.C_nil _ _); (case side4 => exact Nat.le_refl _); rintro e w' ⟨rfl, ⟨nd, rfl⟩⟩; (try first | exact ⟨rfl, _, World.drewN_drewN _ _ _⟩ | exact ⟨rfl, _, Eq.trans (World.drewN_drewN _ _ _) (congrArg (World.drewN _) (Nat.add_assoc _ _ _))⟩)) | (go_at_call 16; (with_reducible refine (bag_Take.calls (fun k_ => k_ < w.heap.size) _ _ l0 a1 t360 t361 t362 t363 t366 _ ?side1 A6.out).mono ?_); (case side1 => exact Kd.V_mk HC0.out (Kd.F_below (Kd.C_F k31_heap HR0.out) (by repeat (first | (with_reducible first | exact HB.out | apply below_alloc | apply pw_below_drewN | apply below_drew1 | refine below_set ?_ GE357.out) | exact HB.out)))); rintro e w10 ⟨v364, rfl, ho0, hb⟩; have n0_ := Aside0.mk (Kd.V_lower (Kd.V_mono (ok' := fun k_ => k_ ≠ gb357) ho0 (fun k_ hk_ => Or.elim hk_ (fun hs_ => fun e_ => Nat.not_le.2 hs_ (by rw [e_]; exact GW357.out)) (fun hn_ => (Kd.freshB (g := gb357) (o := .cells #[.int .i64 a2_0, .int .i64 a2_1] 29 (0, 0)) (by (with_reducible repeat (first | refine blk_drewN ?_ _ | refine blk_drew ?_ | refine blk_alloc ?_ _)); exact BK357.out) k_ hn_)))) (below_size (by repeat (first | (with_reducible first | exact HB.out | apply below_alloc | apply pw_below_drewN | apply below_drew1 | refine below_set ?_ GE357.out) | exact HB.out)))); have n1_ := Aside0.mk (blk_below (g := gb357) (o := .cells #[.int .i64 a2_0, .int .i64 a2_1] 29 (0, 0)) (by (with_reducible repeat (first | refine blk_drewN ?_ _ | refine blk_drew ?_ | refine blk_alloc ?_ _)); exact BK357.out) hb); have n2_ := Aside0.mk (below_step (by repeat (first | (with_reducible first | exact HB.out | apply below_alloc | apply pw_below_drewN | apply below_drew1 | refine below_set ?_ GE357.out) | exact HB.out)) hb); clear BK357; clear HB; have HO365 := n0_; have BK357 := n1_; have HB := n2_; clear n0_ n1_ n2_; (try clear hb); (try clear hb2); (try clear hk); (try clear hi); (try clear ho0)) | ((with_reducible refine gate_dst (N := 7) rfl ?_); (try (refine gate_guard (by rfl) ?_; dsimp only)); refine box_event ?hg (N := 7) ?hd (cs := #[.int .i64 0, .int .i64 0, .string (⟨#[]⟩ : ByteArray)]) (t := 31) ?hr ?_; (case hd => rfl); (case hg => rfl); (case hr => first | (go_simp; done) | (go_simp; rfl)); intro gb367 hg w11 hbox hb; have n0_ := Aside0.mk (Kd.V_below (Kd.V_elderB (by (with_reducible repeat (first | apply Kd.V_alloc | apply Kd.V_drewN | apply Kd.V_drew)); exact HO365.out) gb367 (Nat.le_of_eq hg.symm)) hb); have n1_ := Aside0.mk (blk_below (g := gb357) (o := .cells #[.int .i64 a2_0, .int .i64 a2_1] 29 (0, 0)) (by (with_reducible repeat (first | refine blk_drewN ?_ _ | refine blk_drew ?_ | refine blk_alloc ?_ _)); exact BK357.out) hb); have n2_ := Aside0.mk (below_step (by repeat (first | (with_reducible first | exact HB.out | apply below_alloc | apply pw_below_drewN | apply below_drew1 | refine below_set ?_ GE357.out) | exact HB.out)) hb); have n3_ := Aside0.mk (hbox); have n4_ := Aside0.mk ((by rw [hg]; exact (below_size (by repeat (first | (with_reducible first | exact HB.out | apply below_alloc | apply pw_below_drewN | apply below_drew1 | refine below_set ?_ GE357.out) | exact HB.out))) : w.heap.size ≤ gb367)); have n5_ := Aside0.mk ((by rw [hg]; exact (below_size (by repeat (first | (with_reducible first | exact HB.out | apply below_alloc | apply pw_below_drewN | apply below_drew1 | refine below_set ?_ GE357.out) | exact HB.out))) : w.heap.size ≤ gb367)); have n6_ := Aside0.mk ((by rw [hg]; exact Nat.ne_of_lt (blk_lt (g := gb357) (o := .cells #[.int .i64 a2_0, .int .i64 a2_1] 29 (0, 0)) (by (with_reducible repeat (first | refine blk_drewN ?_ _ | refine blk_drew ?_ | refine blk_alloc ?_ _)); exact BK357.out)) : gb357 ≠ gb367)); have n7_ := Aside0.mk ((by rw [hg]; exact Nat.ne_of_gt (blk_lt (g := gb357) (o := .cells #[.int .i64 a2_0, .int .i64 a2_1] 29 (0, 0)) (by (with_reducible repeat (first | refine blk_drewN ?_ _ | refine blk_drew ?_ | refine blk_alloc ?_ _)); exact BK357.out)) : gb367 ≠ gb357)); clear HO365; clear BK357; clear HB; have HO365 := n0_; have BK357 := n1_; have HB := n2_; have BK367 := n3_; have GW367 := n4_; have GE367 := n5_; have NB357_367 := n6_; have NB367_357 := n7_; clear n0_ n1_ n2_ n3_ n4_ n5_ n6_ n7_; clear hb hbox hg; have hnb12 := NB367_357.out; have hnc12 := NB357_367.out; have hcz13_0 : w11.cell? ⟨gb367, 0, none⟩ = some (.int .i64 0) := (blk_cell BK367.out 0).trans rfl; have hcz13_1 : w11.cell? ⟨gb367, 1, none⟩ = some (.int .i64 0) := (blk_cell BK367.out 1).trans rfl; have hcz13_2 : w11.cell? ⟨gb367, 2, none⟩ = some (.string (⟨#[]⟩ : ByteArray)) := (blk_cell BK367.out 2).trans rfl; have hfz13_0 := blk_frozen BK367.out 0; have hfz13_1 := blk_frozen BK367.out 1; have hfz13_2 := blk_frozen BK367.out 2; have hcz14_0 : w11.cell? ⟨gb357, 0, none⟩ = some (.int .i64 a2_0) := (blk_cell BK357.out 0).trans rfl; have hcz14_1 : w11.cell? ⟨gb357, 1, none⟩ = some (.int .i64 a2_1) := (blk_cell BK357.out 1).trans rfl; have hfz14_0 := blk_frozen BK357.out 0; have hfz14_1 := blk_frozen BK357.out 1) | (go_at_call 21; (with_reducible refine (bag_Between.calls k _ _ l0 a2_0 a2_1 t368 _ ?side1 ?side2 A7.out).mono ?_); (case side1 => exact Kd.C_below HR0.out (by repeat (first | (with_reducible first | exact HB.out | apply below_alloc | apply pw_below_drewN | apply below_drew1 | refine below_set ?_ GE357.out | refine below_set ?_ GE367.out) | exact HB.out))); (case side2 => exact HC0.out); rintro e w15 ⟨v369, rfl, ho0, hb⟩; have n0_ := Aside0.mk (Kd.V_elder' (by (with_reducible repeat (first | apply Kd.V_alloc | apply Kd.V_drewN | apply Kd.V_drew)); exact (Kd.V_mono (Kd.V_far (p := ⟨gb367, 2, none⟩) (Kd.V_far (p := ⟨gb367, 1, none⟩) (Kd.V_far (p := ⟨gb367, 0, none⟩) (Kd.V_mono HO365.out (fun k_ hk => (⟨hk, hk.2⟩ : _ ∧ k_ ≠ gb367))) (fun _ hk => hk.2) (.int .i64 t360)) (fun _ hk => hk.2) (.int .i64 t361)) (fun _ hk => hk.2) (.string t362)) (fun _ h_ => h_.1))) (Kd.R_base ho0) hb); have n1_ := Aside0.mk (Kd.R_lower ho0 (below_size (by repeat (first | (with_reducible first | exact HB.out | apply below_alloc | apply pw_below_drewN | apply below_drew1 | refine below_set ?_ GE357.out | refine below_set ?_ GE367.out) | exact HB.out)))); have n2_ := Aside0.mk (blk_below (g := gb357) (o := .cells #[.int .i64 a2_0, .int .i64 a2_1] 29 (0, 0)) (by (with_reducible repeat (first | refine blk_drewN ?_ _ | refine blk_drew ?_ | refine blk_alloc ?_ _)); refine blk_far ?_ NB357_367.out _; (with_reducible repeat (first | refine blk_drewN ?_ _ | refine blk_drew ?_ | refine blk_alloc ?_ _)); refine blk_far ?_ NB357_367.out _; (with_reducible repeat (first | refine blk_drewN ?_ _ | refine blk_drew ?_ | refine blk_alloc ?_ _)); refine blk_far ?_ NB357_367.out _; (with_reducible repeat (first | refine blk_drewN ?_ _ | refine blk_drew ?_ | refine blk_alloc ?_ _)); exact BK357.out) hb); have n3_ := Aside0.mk (blk_below (g := gb367) (o := .cells #[.int .i64 t360, .int .i64 t361, .string t362] 31 (0, 0)) (by (with_reducible repeat (first | refine blk_drewN ?_ _ | refine blk_drew ?_ | refine blk_alloc ?_ _)); refine blk_put (cs := #[.int .i64 t360, .int .i64 t361, .string (⟨#[]⟩ : ByteArray)]) ?_ 2 _ rfl; (with_reducible repeat (first | refine blk_drewN ?_ _ | refine blk_drew ?_ | refine blk_alloc ?_ _)); refine blk_put (cs := #[.int .i64 t360, .int .i64 0, .string (⟨#[]⟩ : ByteArray)]) ?_ 1 _ rfl; (with_reducible repeat (first | refine blk_drewN ?_ _ | refine blk_drew ?_ | refine blk_alloc ?_ _)); refine blk_put (cs := #[.int .i64 0, .int .i64 0, .string (⟨#[]⟩ : ByteArray)]) ?_ 0 _ rfl; (with_reducible repeat (first | refine blk_drewN ?_ _ | refine blk_drew ?_ | refine blk_alloc ?_ _)); exact BK367.out) hb); have n4_ := Aside0.mk (below_step (by repeat (first | (with_reducible first | exact HB.out | apply below_alloc | apply pw_below_drewN | apply below_drew1 | refine below_set ?_ GE357.out | refine below_set ?_ GE367.out) | exact HB.out)) hb); clear HO365; clear BK357; clear BK367; clear HB; have HO365 := n0_; have HO370 := n1_; have BK357 := n2_; have BK367 := n3_; have HB := n4_; clear n0_ n1_ n2_ n3_ n4_; (try clear hb); (try clear hb2); (try clear hk); (try clear hi); (try clear ho0); have hcz16_0 : w15.cell? ⟨gb357, 0, none⟩ = some (.int .i64 a2_0) := (blk_cell BK357.out 0).trans rfl; have hcz16_1 : w15.cell? ⟨gb357, 1, none⟩ = some (.int .i64 a2_1) := (blk_cell BK357.out 1).trans rfl; have hfz16_0 := blk_frozen BK357.out 0; have hfz16_1 := blk_frozen BK357.out 1; obtain ⟨Ao17, co17, eo17⟩ := Kd.V_slice HO365.out; subst eo17) | (go_at_call 21; (with_reducible refine (bag_Between.calls k _ _ t363 a2_0 a2_1 t371 _ ?side1 ?side2 A8.out).mono ?_); (case side1 => repeat (first | exact (Kd.V_reads' HO365.out).2.2 | (with_reducible refine Kd.C_alloc ?_ _) | (with_reducible refine Kd.C_drewN ?_ _) | (with_reducible refine Kd.C_drew ?_))); (case side2 => exact (Kd.V_reads' HO365.out).2.1); rintro e w18 ⟨v372, rfl, ho0, hb⟩; have n0_ := Aside0.mk (Kd.V_elder' (by (with_reducible repeat (first | apply Kd.V_alloc | apply Kd.V_drewN | apply Kd.V_drew)); exact HO365.out) (Kd.R_base ho0) hb); have n1_ := Aside0.mk (Kd.R_elder' (by (with_reducible repeat (first | apply Kd.R_alloc | apply Kd.R_drewN | apply Kd.R_drew)); exact HO370.out) (Kd.R_base ho0) hb); have n2_ := Aside0.mk (Kd.R_lower (Kd.R_new' ho0 (Kd.R_lt (by (with_reducible repeat (first | apply Kd.R_alloc | apply Kd.R_drewN | apply Kd.R_drew)); exact HO370.out))) (below_size (by repeat (first | (with_reducible first | exact HB.out | apply below_alloc | apply pw_below_drewN | apply below_drew1 | refine below_set ?_ GE357.out | refine below_set ?_ GE367.out) | exact HB.out)))); have n3_ := Aside0.mk (blk_below (g := gb357) (o := .cells #[.int .i64 a2_0, .int .i64 a2_1] 29 (0, 0)) (by (with_reducible repeat (first | refine blk_drewN ?_ _ | refine blk_drew ?_ | refine blk_alloc ?_ _)); exact BK357.out) hb); have n4_ := Aside0.mk (blk_below (g := gb367) (o := .cells #[.int .i64 t360, .int .i64 t361, .string t362] 31 (0, 0)) (by (with_reducible repeat (first | refine blk_drewN ?_ _ | refine blk_drew ?_ | refine blk_alloc ?_ _)); exact BK367.out) hb); have n5_ := Aside0.mk (below_step (by repeat (first | (with_reducible first | exact HB.out | apply below_alloc | apply pw_below_drewN | apply below_drew1 | refine below_set ?_ GE357.out | refine below_set ?_ GE367.out) | exact HB.out)) hb); clear HO365; clear HO370; clear BK357; clear BK367; clear HB; have HO365 := n0_; have HO370 := n1_; have HO373 := n2_; have BK357 := n3_; have BK367 := n4_; have HB := n5_; clear n0_ n1_ n2_ n3_ n4_ n5_; (try clear hb); (try clear hb2); (try clear hk); (try clear hi); (try clear ho0)))
    repeat (go_quiet (first | ((with_reducible refine gate_dst (N := 5) rfl ?_); (try (refine gate_guard (by rfl) ?_; dsimp only)); refine box_event ?hg (N := 5) ?hd (cs := #[.int .i64 a2_0, .int .i64 a2_1]) (t := 29) ?hr ?_; (case hd => rfl); (case hg => rfl); (case hr => first | (go_simp; done) | (go_simp; rfl)); intro gb357 hg w9 hbox hb; have n0_ := Aside0.mk (below_step (by repeat (first | (with_reducible first | exact HB.out | apply below_alloc | apply pw_below_drewN | apply below_drew1) | exact HB.out)) hb); have n1_ := Aside0.mk (hbox); have n2_ := Aside0.mk ((by rw [hg]; exact (below_size (by repeat (first | (with_reducible first | exact HB.out | apply below_alloc | apply pw_below_drewN | apply below_drew1) | exact HB.out))) : w.heap.size ≤ gb357)); have n3_ := Aside0.mk ((by rw [hg]; exact (below_size (by repeat (first | (with_reducible first | exact HB.out | apply below_alloc | apply pw_below_drewN | apply below_drew1) | exact HB.out))) : w.heap.size ≤ gb357)); clear HB; have HB := n0_; have BK357 := n1_; have GW357 := n2_; have GE357 := n3_; clear n0_ n1_ n2_ n3_; clear hb hbox hg) | (go_at_call 9; (refine (batonlaw12_few.calls _ _ l0 _ _ ([] : List (S31)) true _ ?side1 ?side2 ?side3 ?side4 A4.out).mono ?_); (case side1 => repeat (first | exact (Kd.C_below HR0.out HB.out) | (with_reducible refine Kd.C_alloc ?_ _) | (with_reducible refine Kd.C_drewN ?_ _) | (with_reducible refine Kd.C_drew ?_))); (case side2 => exact HC0.out); (case side3 => exact Kd.C_nil _ _); (case side4 => exact Nat.le_refl _); rintro e w' ⟨rfl, ⟨nd, rfl⟩⟩; (try first | exact ⟨rfl, _, World.drewN_drewN _ _ _⟩ | exact ⟨rfl, _, Eq.trans (World.drewN_drewN _ _ _) (congrArg (World.drewN _) (Nat.add_assoc _ _ _))⟩)) | (go_at_call 16; (with_reducible refine (bag_Take.calls (fun k_ => k_ < w.heap.size) _ _ l0 a1 t360 t361 t362 t363 t366 _ ?side1 A6.out).mono ?_); (case side1 => exact Kd.V_mk HC0.out (Kd.F_below (Kd.C_F k31_heap HR0.out) (by repeat (first | (with_reducible first | exact HB.out | apply below_alloc | apply pw_below_drewN | apply below_drew1 | refine below_set ?_ GE357.out) | exact HB.out)))); rintro e w10 ⟨v364, rfl, ho0, hb⟩; have n0_ := Aside0.mk (Kd.V_lower (Kd.V_mono (ok' := fun k_ => k_ ≠ gb357) ho0 (fun k_ hk_ => Or.elim hk_ (fun hs_ => fun e_ => Nat.not_le.2 hs_ (by rw [e_]; exact GW357.out)) (fun hn_ => (Kd.freshB (g := gb357) (o := .cells #[.int .i64 a2_0, .int .i64 a2_1] 29 (0, 0)) (by (with_reducible repeat (first | refine blk_drewN ?_ _ | refine blk_drew ?_ | refine blk_alloc ?_ _)); exact BK357.out) k_ hn_)))) (below_size (by repeat (first | (with_reducible first | exact HB.out | apply below_alloc | apply pw_below_drewN | apply below_drew1 | refine below_set ?_ GE357.out) | exact HB.out)))); have n1_ := Aside0.mk (blk_below (g := gb357) (o := .cells #[.int .i64 a2_0, .int .i64 a2_1] 29 (0, 0)) (by (with_reducible repeat (first | refine blk_drewN ?_ _ | refine blk_drew ?_ | refine blk_alloc ?_ _)); exact BK357.out) hb); have n2_ := Aside0.mk (below_step (by repeat (first | (with_reducible first | exact HB.out | apply below_alloc | apply pw_below_drewN | apply below_drew1 | refine below_set ?_ GE357.out) | exact HB.out)) hb); clear BK357; clear HB; have HO365 := n0_; have BK357 := n1_; have HB := n2_; clear n0_ n1_ n2_; (try clear hb); (try clear hb2); (try clear hk); (try clear hi); (try clear ho0)) | ((with_reducible refine gate_dst (N := 7) rfl ?_); (try (refine gate_guard (by rfl) ?_; dsimp only)); refine box_event ?hg (N := 7) ?hd (cs := #[.int .i64 0, .int .i64 0, .string (⟨#[]⟩ : ByteArray)]) (t := 31) ?hr ?_; (case hd => rfl); (case hg => rfl); (case hr => first | (go_simp; done) | (go_simp; rfl)); intro gb367 hg w11 hbox hb; have n0_ := Aside0.mk (Kd.V_below (Kd.V_elderB (by (with_reducible repeat (first | apply Kd.V_alloc | apply Kd.V_drewN | apply Kd.V_drew)); exact HO365.out) gb367 (Nat.le_of_eq hg.symm)) hb); have n1_ := Aside0.mk (blk_below (g := gb357) (o := .cells #[.int .i64 a2_0, .int .i64 a2_1] 29 (0, 0)) (by (with_reducible repeat (first | refine blk_drewN ?_ _ | refine blk_drew ?_ | refine blk_alloc ?_ _)); exact BK357.out) hb); have n2_ := Aside0.mk (below_step (by repeat (first | (with_reducible first | exact HB.out | apply below_alloc | apply pw_below_drewN | apply below_drew1 | refine below_set ?_ GE357.out) | exact HB.out)) hb); have n3_ := Aside0.mk (hbox); have n4_ := Aside0.mk ((by rw [hg]; exact (below_size (by repeat (first | (with_reducible first | exact HB.out | apply below_alloc | apply pw_below_drewN | apply below_drew1 | refine below_set ?_ GE357.out) | exact HB.out))) : w.heap.size ≤ gb367)); have n5_ := Aside0.mk ((by rw [hg]; exact (below_size (by repeat (first | (with_reducible first | exact HB.out | apply below_alloc | apply pw_below_drewN | apply below_drew1 | refine below_set ?_ GE357.out) | exact HB.out))) : w.heap.size ≤ gb367)); have n6_ := Aside0.mk ((by rw [hg]; exact Nat.ne_of_lt (blk_lt (g := gb357) (o := .cells #[.int .i64 a2_0, .int .i64 a2_1] 29 (0, 0)) (by (with_reducible repeat (first | refine blk_drewN ?_ _ | refine blk_drew ?_ | refine blk_alloc ?_ _)); exact BK357.out)) : gb357 ≠ gb367)); have n7_ := Aside0.mk ((by rw [hg]; exact Nat.ne_of_gt (blk_lt (g := gb357) (o := .cells #[.int .i64 a2_0, .int .i64 a2_1] 29 (0, 0)) (by (with_reducible repeat (first | refine blk_drewN ?_ _ | refine blk_drew ?_ | refine blk_alloc ?_ _)); exact BK357.out)) : gb367 ≠ gb357)); clear HO365; clear BK357; clear HB; have HO365 := n0_; have BK357 := n1_; have HB := n2_; have BK367 := n3_; have GW367 := n4_; have GE367 := n5_; have NB357_367 := n6_; have NB367_357 := n7_; clear n0_ n1_ n2_ n3_ n4_ n5_ n6_ n7_; clear hb hbox hg; have hnb12 := NB367_357.out; have hnc12 := NB357_367.out; have hcz13_0 : w11.cell? ⟨gb367, 0, none⟩ = some (.int .i64 0) := (blk_cell BK367.out 0).trans rfl; have hcz13_1 : w11.cell? ⟨gb367, 1, none⟩ = some (.int .i64 0) := (blk_cell BK367.out 1).trans rfl; have hcz13_2 : w11.cell? ⟨gb367, 2, none⟩ = some (.string (⟨#[]⟩ : ByteArray)) := (blk_cell BK367.out 2).trans rfl; have hfz13_0 := blk_frozen BK367.out 0; have hfz13_1 := blk_frozen BK367.out 1; have hfz13_2 := blk_frozen BK367.out 2; have hcz14_0 : w11.cell? ⟨gb357, 0, none⟩ = some (.int .i64 a2_0) := (blk_cell BK357.out 0).trans rfl; have hcz14_1 : w11.cell? ⟨gb357, 1, none⟩ = some (.int .i64 a2_1) := (blk_cell BK357.out 1).trans rfl; have hfz14_0 := blk_frozen BK357.out 0; have hfz14_1 := blk_frozen BK357.out 1) | (go_at_call 21; (with_reducible refine (bag_Between.calls k _ _ l0 a2_0 a2_1 t368 _ ?side1 ?side2 A7.out).mono ?_); (case side1 => exact Kd.C_below HR0.out (by repeat (first | (with_reducible first | exact HB.out | apply below_alloc | apply pw_below_drewN | apply below_drew1 | refine below_set ?_ GE357.out | refine below_set ?_ GE367.out) | exact HB.out))); (case side2 => exact HC0.out); rintro e w15 ⟨v369, rfl, ho0, hb⟩; have n0_ := Aside0.mk (Kd.V_elder' (by (with_reducible repeat (first | apply Kd.V_alloc | apply Kd.V_drewN | apply Kd.V_drew)); exact (Kd.V_mono (Kd.V_far (p := ⟨gb367, 2, none⟩) (Kd.V_far (p := ⟨gb367, 1, none⟩) (Kd.V_far (p := ⟨gb367, 0, none⟩) (Kd.V_mono HO365.out (fun k_ hk => (⟨hk, hk.2⟩ : _ ∧ k_ ≠ gb367))) (fun _ hk => hk.2) (.int .i64 t360)) (fun _ hk => hk.2) (.int .i64 t361)) (fun _ hk => hk.2) (.string t362)) (fun _ h_ => h_.1))) (Kd.R_base ho0) hb); have n1_ := Aside0.mk (Kd.R_lower ho0 (below_size (by repeat (first | (with_reducible first | exact HB.out | apply below_alloc | apply pw_below_drewN | apply below_drew1 | refine below_set ?_ GE357.out | refine below_set ?_ GE367.out) | exact HB.out)))); have n2_ := Aside0.mk (blk_below (g := gb357) (o := .cells #[.int .i64 a2_0, .int .i64 a2_1] 29 (0, 0)) (by (with_reducible repeat (first | refine blk_drewN ?_ _ | refine blk_drew ?_ | refine blk_alloc ?_ _)); refine blk_far ?_ NB357_367.out _; (with_reducible repeat (first | refine blk_drewN ?_ _ | refine blk_drew ?_ | refine blk_alloc ?_ _)); refine blk_far ?_ NB357_367.out _; (with_reducible repeat (first | refine blk_drewN ?_ _ | refine blk_drew ?_ | refine blk_alloc ?_ _)); refine blk_far ?_ NB357_367.out _; (with_reducible repeat (first | refine blk_drewN ?_ _ | refine blk_drew ?_ | refine blk_alloc ?_ _)); exact BK357.out) hb); have n3_ := Aside0.mk (blk_below (g := gb367) (o := .cells #[.int .i64 t360, .int .i64 t361, .string t362] 31 (0, 0)) (by (with_reducible repeat (first | refine blk_drewN ?_ _ | refine blk_drew ?_ | refine blk_alloc ?_ _)); refine blk_put (cs := #[.int .i64 t360, .int .i64 t361, .string (⟨#[]⟩ : ByteArray)]) ?_ 2 _ rfl; (with_reducible repeat (first | refine blk_drewN ?_ _ | refine blk_drew ?_ | refine blk_alloc ?_ _)); refine blk_put (cs := #[.int .i64 t360, .int .i64 0, .string (⟨#[]⟩ : ByteArray)]) ?_ 1 _ rfl; (with_reducible repeat (first | refine blk_drewN ?_ _ | refine blk_drew ?_ | refine blk_alloc ?_ _)); refine blk_put (cs := #[.int .i64 0, .int .i64 0, .string (⟨#[]⟩ : ByteArray)]) ?_ 0 _ rfl; (with_reducible repeat (first | refine blk_drewN ?_ _ | refine blk_drew ?_ | refine blk_alloc ?_ _)); exact BK367.out) hb); have n4_ := Aside0.mk (below_step (by repeat (first | (with_reducible first | exact HB.out | apply below_alloc | apply pw_below_drewN | apply below_drew1 | refine below_set ?_ GE357.out | refine below_set ?_ GE367.out) | exact HB.out)) hb); clear HO365; clear BK357; clear BK367; clear HB; have HO365 := n0_; have HO370 := n1_; have BK357 := n2_; have BK367 := n3_; have HB := n4_; clear n0_ n1_ n2_ n3_ n4_; (try clear hb); (try clear hb2); (try clear hk); (try clear hi); (try clear ho0); have hcz16_0 : w15.cell? ⟨gb357, 0, none⟩ = some (.int .i64 a2_0) := (blk_cell BK357.out 0).trans rfl; have hcz16_1 : w15.cell? ⟨gb357, 1, none⟩ = some (.int .i64 a2_1) := (blk_cell BK357.out 1).trans rfl; have hfz16_0 := blk_frozen BK357.out 0; have hfz16_1 := blk_frozen BK357.out 1; obtain ⟨Ao17, co17, eo17⟩ := Kd.V_slice HO365.out; subst eo17) | (go_at_call 21; (with_reducible refine (bag_Between.calls k _ _ t363 a2_0 a2_1 t371 _ ?side1 ?side2 A8.out).mono ?_); (case side1 => repeat (first | exact (Kd.V_reads' HO365.out).2.2 | (with_reducible refine Kd.C_alloc ?_ _) | (with_reducible refine Kd.C_drewN ?_ _) | (with_reducible refine Kd.C_drew ?_))); (case side2 => exact (Kd.V_reads' HO365.out).2.1); rintro e w18 ⟨v372, rfl, ho0, hb⟩; have n0_ := Aside0.mk (Kd.V_elder' (by (with_reducible repeat (first | apply Kd.V_alloc | apply Kd.V_drewN | apply Kd.V_drew)); exact HO365.out) (Kd.R_base ho0) hb); have n1_ := Aside0.mk (Kd.R_elder' (by (with_reducible repeat (first | apply Kd.R_alloc | apply Kd.R_drewN | apply Kd.R_drew)); exact HO370.out) (Kd.R_base ho0) hb); have n2_ := Aside0.mk (Kd.R_lower (Kd.R_new' ho0 (Kd.R_lt (by (with_reducible repeat (first | apply Kd.R_alloc | apply Kd.R_drewN | apply Kd.R_drew)); exact HO370.out))) (below_size (by repeat (first | (with_reducible first | exact HB.out | apply below_alloc | apply pw_below_drewN | apply below_drew1 | refine below_set ?_ GE357.out | refine below_set ?_ GE367.out) | exact HB.out)))); have n3_ := Aside0.mk (blk_below (g := gb357) (o := .cells #[.int .i64 a2_0, .int .i64 a2_1] 29 (0, 0)) (by (with_reducible repeat (first | refine blk_drewN ?_ _ | refine blk_drew ?_ | refine blk_alloc ?_ _)); exact BK357.out) hb); have n4_ := Aside0.mk (blk_below (g := gb367) (o := .cells #[.int .i64 t360, .int .i64 t361, .string t362] 31 (0, 0)) (by (with_reducible repeat (first | refine blk_drewN ?_ _ | refine blk_drew ?_ | refine blk_alloc ?_ _)); exact BK367.out) hb); have n5_ := Aside0.mk (below_step (by repeat (first | (with_reducible first | exact HB.out | apply below_alloc | apply pw_below_drewN | apply below_drew1 | refine below_set ?_ GE357.out | refine below_set ?_ GE367.out) | exact HB.out)) hb); clear HO365; clear HO370; clear BK357; clear BK367; clear HB; have HO365 := n0_; have HO370 := n1_; have HO373 := n2_; have BK357 := n3_; have BK367 := n4_; have HB := n5_; clear n0_ n1_ n2_ n3_ n4_ n5_; (try clear hb); (try clear hb2); (try clear hk); (try clear hi); (try clear ho0))); try go_wp2_with (first | ((with_reducible refine gate_dst (N := 5) rfl ?_); (try (refine gate_guard (by rfl) ?_; dsimp only)); refine box_event ?hg (N := 5) ?hd (cs := #[.int .i64 a2_0, .int .i64 a2_1]) (t := 29) ?hr ?_; (case hd => rfl); (case hg => rfl); (case hr => first | (go_simp; done) | (go_simp; rfl)); intro gb357 hg w9 hbox hb; have n0_ := Aside0.mk (below_step (by repeat (first | (with_reducible first | exact HB.out | apply below_alloc | apply pw_below_drewN | apply below_drew1) | exact HB.out)) hb); have n1_ := Aside0.mk (hbox); have n2_ := Aside0.mk ((by rw [hg]; exact (below_size (by repeat (first | (with_reducible first | exact HB.out | apply below_alloc | apply pw_below_drewN | apply below_drew1) | exact HB.out))) : w.heap.size ≤ gb357)); have n3_ := Aside0.mk ((by rw [hg]; exact (below_size (by repeat (first | (with_reducible first | exact HB.out | apply below_alloc | apply pw_below_drewN | apply below_drew1) | exact HB.out))) : w.heap.size ≤ gb357)); clear HB; have HB := n0_; have BK357 := n1_; have GW357 := n2_; have GE357 := n3_; clear n0_ n1_ n2_ n3_; clear hb hbox hg) | (go_at_call 9; (refine (batonlaw12_few.calls _ _ l0 _ _ ([] : List (S31)) true _ ?side1 ?side2 ?side3 ?side4 A4.out).mono ?_); (case side1 => repeat (first | exact (Kd.C_below HR0.out HB.out) | (with_reducible refine Kd.C_alloc ?_ _) | (with_reducible refine Kd.C_drewN ?_ _) | (with_reducible refine Kd.C_drew ?_))); (case side2 => exact HC0.out); (case side3 => exact Kd.C_nil _ _); (case side4 => exact Nat.le_refl _); rintro e w' ⟨rfl, ⟨nd, rfl⟩⟩; (try first | exact ⟨rfl, _, World.drewN_drewN _ _ _⟩ | exact ⟨rfl, _, Eq.trans (World.drewN_drewN _ _ _) (congrArg (World.drewN _) (Nat.add_assoc _ _ _))⟩)) | (go_at_call 16; (with_reducible refine (bag_Take.calls (fun k_ => k_ < w.heap.size) _ _ l0 a1 t360 t361 t362 t363 t366 _ ?side1 A6.out).mono ?_); (case side1 => exact Kd.V_mk HC0.out (Kd.F_below (Kd.C_F k31_heap HR0.out) (by repeat (first | (with_reducible first | exact HB.out | apply below_alloc | apply pw_below_drewN | apply below_drew1 | refine below_set ?_ GE357.out) | exact HB.out)))); rintro e w10 ⟨v364, rfl, ho0, hb⟩; have n0_ := Aside0.mk (Kd.V_lower (Kd.V_mono (ok' := fun k_ => k_ ≠ gb357) ho0 (fun k_ hk_ => Or.elim hk_ (fun hs_ => fun e_ => Nat.not_le.2 hs_ (by rw [e_]; exact GW357.out)) (fun hn_ => (Kd.freshB (g := gb357) (o := .cells #[.int .i64 a2_0, .int .i64 a2_1] 29 (0, 0)) (by (with_reducible repeat (first | refine blk_drewN ?_ _ | refine blk_drew ?_ | refine blk_alloc ?_ _)); exact BK357.out) k_ hn_)))) (below_size (by repeat (first | (with_reducible first | exact HB.out | apply below_alloc | apply pw_below_drewN | apply below_drew1 | refine below_set ?_ GE357.out) | exact HB.out)))); have n1_ := Aside0.mk (blk_below (g := gb357) (o := .cells #[.int .i64 a2_0, .int .i64 a2_1] 29 (0, 0)) (by (with_reducible repeat (first | refine blk_drewN ?_ _ | refine blk_drew ?_ | refine blk_alloc ?_ _)); exact BK357.out) hb); have n2_ := Aside0.mk (below_step (by repeat (first | (with_reducible first | exact HB.out | apply below_alloc | apply pw_below_drewN | apply below_drew1 | refine below_set ?_ GE357.out) | exact HB.out)) hb); clear BK357; clear HB; have HO365 := n0_; have BK357 := n1_; have HB := n2_; clear n0_ n1_ n2_; (try clear hb); (try clear hb2); (try clear hk); (try clear hi); (try clear ho0)) | ((with_reducible refine gate_dst (N := 7) rfl ?_); (try (refine gate_guard (by rfl) ?_; dsimp only)); refine box_event ?hg (N := 7) ?hd (cs := #[.int .i64 0, .int .i64 0, .string (⟨#[]⟩ : ByteArray)]) (t := 31) ?hr ?_; (case hd => rfl); (case hg => rfl); (case hr => first | (go_simp; done) | (go_simp; rfl)); intro gb367 hg w11 hbox hb; have n0_ := Aside0.mk (Kd.V_below (Kd.V_elderB (by (with_reducible repeat (first | apply Kd.V_alloc | apply Kd.V_drewN | apply Kd.V_drew)); exact HO365.out) gb367 (Nat.le_of_eq hg.symm)) hb); have n1_ := Aside0.mk (blk_below (g := gb357) (o := .cells #[.int .i64 a2_0, .int .i64 a2_1] 29 (0, 0)) (by (with_reducible repeat (first | refine blk_drewN ?_ _ | refine blk_drew ?_ | refine blk_alloc ?_ _)); exact BK357.out) hb); have n2_ := Aside0.mk (below_step (by repeat (first | (with_reducible first | exact HB.out | apply below_alloc | apply pw_below_drewN | apply below_drew1 | refine below_set ?_ GE357.out) | exact HB.out)) hb); have n3_ := Aside0.mk (hbox); have n4_ := Aside0.mk ((by rw [hg]; exact (below_size (by repeat (first | (with_reducible first | exact HB.out | apply below_alloc | apply pw_below_drewN | apply below_drew1 | refine below_set ?_ GE357.out) | exact HB.out))) : w.heap.size ≤ gb367)); have n5_ := Aside0.mk ((by rw [hg]; exact (below_size (by repeat (first | (with_reducible first | exact HB.out | apply below_alloc | apply pw_below_drewN | apply below_drew1 | refine below_set ?_ GE357.out) | exact HB.out))) : w.heap.size ≤ gb367)); have n6_ := Aside0.mk ((by rw [hg]; exact Nat.ne_of_lt (blk_lt (g := gb357) (o := .cells #[.int .i64 a2_0, .int .i64 a2_1] 29 (0, 0)) (by (with_reducible repeat (first | refine blk_drewN ?_ _ | refine blk_drew ?_ | refine blk_alloc ?_ _)); exact BK357.out)) : gb357 ≠ gb367)); have n7_ := Aside0.mk ((by rw [hg]; exact Nat.ne_of_gt (blk_lt (g := gb357) (o := .cells #[.int .i64 a2_0, .int .i64 a2_1] 29 (0, 0)) (by (with_reducible repeat (first | refine blk_drewN ?_ _ | refine blk_drew ?_ | refine blk_alloc ?_ _)); exact BK357.out)) : gb367 ≠ gb357)); clear HO365; clear BK357; clear HB; have HO365 := n0_; have BK357 := n1_; have HB := n2_; have BK367 := n3_; have GW367 := n4_; have GE367 := n5_; have NB357_367 := n6_; have NB367_357 := n7_; clear n0_ n1_ n2_ n3_ n4_ n5_ n6_ n7_; clear hb hbox hg; have hnb12 := NB367_357.out; have hnc12 := NB357_367.out; have hcz13_0 : w11.cell? ⟨gb367, 0, none⟩ = some (.int .i64 0) := (blk_cell BK367.out 0).trans rfl; have hcz13_1 : w11.cell? ⟨gb367, 1, none⟩ = some (.int .i64 0) := (blk_cell BK367.out 1).trans rfl; have hcz13_2 : w11.cell? ⟨gb367, 2, none⟩ = some (.string (⟨#[]⟩ : ByteArray)) := (blk_cell BK367.out 2).trans rfl; have hfz13_0 := blk_frozen BK367.out 0; have hfz13_1 := blk_frozen BK367.out 1; have hfz13_2 := blk_frozen BK367.out 2; have hcz14_0 : w11.cell? ⟨gb357, 0, none⟩ = some (.int .i64 a2_0) := (blk_cell BK357.out 0).trans rfl; have hcz14_1 : w11.cell? ⟨gb357, 1, none⟩ = some (.int .i64 a2_1) := (blk_cell BK357.out 1).trans rfl; have hfz14_0 := blk_frozen BK357.out 0; have hfz14_1 := blk_frozen BK357.out 1) | (go_at_call 21; (with_reducible refine (bag_Between.calls k _ _ l0 a2_0 a2_1 t368 _ ?side1 ?side2 A7.out).mono ?_); (case side1 => exact Kd.C_below HR0.out (by repeat (first | (with_reducible first | exact HB.out | apply below_alloc | apply pw_below_drewN | apply below_drew1 | refine below_set ?_ GE357.out | refine below_set ?_ GE367.out) | exact HB.out))); (case side2 => exact HC0.out); rintro e w15 ⟨v369, rfl, ho0, hb⟩; have n0_ := Aside0.mk (Kd.V_elder' (by (with_reducible repeat (first | apply Kd.V_alloc | apply Kd.V_drewN | apply Kd.V_drew)); exact (Kd.V_mono (Kd.V_far (p := ⟨gb367, 2, none⟩) (Kd.V_far (p := ⟨gb367, 1, none⟩) (Kd.V_far (p := ⟨gb367, 0, none⟩) (Kd.V_mono HO365.out (fun k_ hk => (⟨hk, hk.2⟩ : _ ∧ k_ ≠ gb367))) (fun _ hk => hk.2) (.int .i64 t360)) (fun _ hk => hk.2) (.int .i64 t361)) (fun _ hk => hk.2) (.string t362)) (fun _ h_ => h_.1))) (Kd.R_base ho0) hb); have n1_ := Aside0.mk (Kd.R_lower ho0 (below_size (by repeat (first | (with_reducible first | exact HB.out | apply below_alloc | apply pw_below_drewN | apply below_drew1 | refine below_set ?_ GE357.out | refine below_set ?_ GE367.out) | exact HB.out)))); have n2_ := Aside0.mk (blk_below (g := gb357) (o := .cells #[.int .i64 a2_0, .int .i64 a2_1] 29 (0, 0)) (by (with_reducible repeat (first | refine blk_drewN ?_ _ | refine blk_drew ?_ | refine blk_alloc ?_ _)); refine blk_far ?_ NB357_367.out _; (with_reducible repeat (first | refine blk_drewN ?_ _ | refine blk_drew ?_ | refine blk_alloc ?_ _)); refine blk_far ?_ NB357_367.out _; (with_reducible repeat (first | refine blk_drewN ?_ _ | refine blk_drew ?_ | refine blk_alloc ?_ _)); refine blk_far ?_ NB357_367.out _; (with_reducible repeat (first | refine blk_drewN ?_ _ | refine blk_drew ?_ | refine blk_alloc ?_ _)); exact BK357.out) hb); have n3_ := Aside0.mk (blk_below (g := gb367) (o := .cells #[.int .i64 t360, .int .i64 t361, .string t362] 31 (0, 0)) (by (with_reducible repeat (first | refine blk_drewN ?_ _ | refine blk_drew ?_ | refine blk_alloc ?_ _)); refine blk_put (cs := #[.int .i64 t360, .int .i64 t361, .string (⟨#[]⟩ : ByteArray)]) ?_ 2 _ rfl; (with_reducible repeat (first | refine blk_drewN ?_ _ | refine blk_drew ?_ | refine blk_alloc ?_ _)); refine blk_put (cs := #[.int .i64 t360, .int .i64 0, .string (⟨#[]⟩ : ByteArray)]) ?_ 1 _ rfl; (with_reducible repeat (first | refine blk_drewN ?_ _ | refine blk_drew ?_ | refine blk_alloc ?_ _)); refine blk_put (cs := #[.int .i64 0, .int .i64 0, .string (⟨#[]⟩ : ByteArray)]) ?_ 0 _ rfl; (with_reducible repeat (first | refine blk_drewN ?_ _ | refine blk_drew ?_ | refine blk_alloc ?_ _)); exact BK367.out) hb); have n4_ := Aside0.mk (below_step (by repeat (first | (with_reducible first | exact HB.out | apply below_alloc | apply pw_below_drewN | apply below_drew1 | refine below_set ?_ GE357.out | refine below_set ?_ GE367.out) | exact HB.out)) hb); clear HO365; clear BK357; clear BK367; clear HB; have HO365 := n0_; have HO370 := n1_; have BK357 := n2_; have BK367 := n3_; have HB := n4_; clear n0_ n1_ n2_ n3_ n4_; (try clear hb); (try clear hb2); (try clear hk); (try clear hi); (try clear ho0); have hcz16_0 : w15.cell? ⟨gb357, 0, none⟩ = some (.int .i64 a2_0) := (blk_cell BK357.out 0).trans rfl; have hcz16_1 : w15.cell? ⟨gb357, 1, none⟩ = some (.int .i64 a2_1) := (blk_cell BK357.out 1).trans rfl; have hfz16_0 := blk_frozen BK357.out 0; have hfz16_1 := blk_frozen BK357.out 1; obtain ⟨Ao17, co17, eo17⟩ := Kd.V_slice HO365.out; subst eo17) | (go_at_call 21; (with_reducible refine (bag_Between.calls k _ _ t363 a2_0 a2_1 t371 _ ?side1 ?side2 A8.out).mono ?_); (case side1 => repeat (first | exact (Kd.V_reads' HO365.out).2.2 | (with_reducible refine Kd.C_alloc ?_ _) | (with_reducible refine Kd.C_drewN ?_ _) | (with_reducible refine Kd.C_drew ?_))); (case side2 => exact (Kd.V_reads' HO365.out).2.1); rintro e w18 ⟨v372, rfl, ho0, hb⟩; have n0_ := Aside0.mk (Kd.V_elder' (by (with_reducible repeat (first | apply Kd.V_alloc | apply Kd.V_drewN | apply Kd.V_drew)); exact HO365.out) (Kd.R_base ho0) hb); have n1_ := Aside0.mk (Kd.R_elder' (by (with_reducible repeat (first | apply Kd.R_alloc | apply Kd.R_drewN | apply Kd.R_drew)); exact HO370.out) (Kd.R_base ho0) hb); have n2_ := Aside0.mk (Kd.R_lower (Kd.R_new' ho0 (Kd.R_lt (by (with_reducible repeat (first | apply Kd.R_alloc | apply Kd.R_drewN | apply Kd.R_drew)); exact HO370.out))) (below_size (by repeat (first | (with_reducible first | exact HB.out | apply below_alloc | apply pw_below_drewN | apply below_drew1 | refine below_set ?_ GE357.out | refine below_set ?_ GE367.out) | exact HB.out)))); have n3_ := Aside0.mk (blk_below (g := gb357) (o := .cells #[.int .i64 a2_0, .int .i64 a2_1] 29 (0, 0)) (by (with_reducible repeat (first | refine blk_drewN ?_ _ | refine blk_drew ?_ | refine blk_alloc ?_ _)); exact BK357.out) hb); have n4_ := Aside0.mk (blk_below (g := gb367) (o := .cells #[.int .i64 t360, .int .i64 t361, .string t362] 31 (0, 0)) (by (with_reducible repeat (first | refine blk_drewN ?_ _ | refine blk_drew ?_ | refine blk_alloc ?_ _)); exact BK367.out) hb); have n5_ := Aside0.mk (below_step (by repeat (first | (with_reducible first | exact HB.out | apply below_alloc | apply pw_below_drewN | apply below_drew1 | refine below_set ?_ GE357.out | refine below_set ?_ GE367.out) | exact HB.out)) hb); clear HO365; clear HO370; clear BK357; clear BK367; clear HB; have HO365 := n0_; have HO370 := n1_; have HO373 := n2_; have BK357 := n3_; have BK367 := n4_; have HB := n5_; clear n0_ n1_ n2_ n3_ n4_ n5_; (try clear hb); (try clear hb2); (try clear hk); (try clear hi); (try clear ho0))))
    go_loopg [12] k (fun kq v12 w' => ∃ (x12_1 : Int), v12 = .int .i64 x12_1 ∧ Aside0 (batonlaw12_BagCounts.l0 kq l0 a1 t363 t366 t368 t371 x12_1 a2_0 a2_1 t360 t361 t362 = some r) ∧ Aside0 (kq ≤ k) ∧ Aside0 (Kd.V k31 31 w' w.heap.size (fun k_ => some k_ ≠ (v369 : Value).ownBlock ∧ some k_ ≠ (v372 : Value).ownBlock ∧ k_ ≠ gb357 ∧ k_ ≠ gb367) (.slice Ao17 t363.length co17) t363) ∧ Aside0 (Kd.R (Kd.int .i64) 3 w' w.heap.size (fun k_ => some k_ ≠ (v372 : Value).ownBlock) v369 t368) ∧ Aside0 (Kd.R (Kd.int .i64) 3 w' w.heap.size (fun k_ => some k_ ≠ (v369 : Value).ownBlock) v372 t371) ∧ Aside0 (w'.heap[gb357]? = some (.cells #[.int .i64 a2_0, .int .i64 a2_1] 29 (0, 0))) ∧ Aside0 (w'.heap[gb367]? = some (.cells #[.int .i64 t360, .int .i64 t361, .string t362] 31 (0, 0))) ∧ Aside0 (Below w.heap.size w w'))
    case atStart => exact ⟨(0), (by first | rfl | (simp; done) | (simp [*]; done)), H', ⟨Nat.le_refl _⟩, ⟨by (with_reducible repeat (first | apply Kd.V_alloc | apply Kd.V_drewN | apply Kd.V_drew)); exact Kd.V_mono HO365.out (fun _ hk => ⟨hk.1.2, ⟨hk.2, ⟨hk.1.1.1, hk.1.1.2⟩⟩⟩)⟩, ⟨by (with_reducible repeat (first | apply Kd.R_alloc | apply Kd.R_drewN | apply Kd.R_drew)); exact Kd.R_mono HO370.out (fun _ hk => hk.2)⟩, ⟨by (with_reducible repeat (first | apply Kd.R_alloc | apply Kd.R_drewN | apply Kd.R_drew)); exact Kd.R_mono HO373.out (fun _ hk => hk.2)⟩, ⟨by (with_reducible repeat (first | refine blk_drewN ?_ _ | refine blk_drew ?_ | refine blk_alloc ?_ _)); exact BK357.out⟩, ⟨by (with_reducible repeat (first | refine blk_drewN ?_ _ | refine blk_drew ?_ | refine blk_alloc ?_ _)); exact BK367.out⟩, ⟨by repeat (first | (with_reducible first | exact HB.out | apply below_alloc | apply pw_below_drewN | apply below_drew1 | refine below_set ?_ GE357.out | refine below_set ?_ GE367.out) | exact HB.out)⟩⟩
    case round =>
      clear H'
      try clear c1
      try clear p2
      try clear c5
      try clear c7
      try clear c12
      try clear hcz13_0
      try clear hcz13_1
      try clear hcz13_2
      try clear hcz14_0
      try clear hcz14_1
      try clear hcz16_0
      try clear hcz16_1
      try clear hfz13_0
      try clear hfz13_1
      try clear hfz13_2
      try clear hfz14_0
      try clear hfz14_1
      try clear hfz16_0
      try clear hfz16_1
      obtain ⟨x12_1, rfl, HA, HK1, HO_8, HO_10, HO_11, BK357, BK367, HB⟩ := hrel
      cases gk with
      | zero => exact absurd HA.out (by simp [batonlaw12_BagCounts.l0])
      | succ k1 =>
        have H := HA.out
        clear HA
        simp only [batonlaw12_BagCounts.l0] at H
        by_cases c19 : x12_1 < (t368.length : Int)
        · rw [if_pos c19] at H
          have c19b0 : decide (x12_1 < (t368.length : Int)) = true := decide_eq_true c19
          clear c19
          by_cases c20 : 0 ≤ x12_1
          · rw [if_pos c20] at H
            have c20b0 : decide (0 ≤ x12_1) = true := decide_eq_true c20
            clear c20
            by_cases c21 : (rd t368 x12_1) < 0
            · rw [if_pos c21] at H
              exact absurd H (by simp)
            · rw [if_neg c21] at H
              have c21b0 : decide ((rd t368 x12_1) < 0) = false := decide_eq_false c21
              clear c21
              by_cases c22 : (rd t368 x12_1) ≥ (l0.length : Int)
              · rw [if_pos c22] at H
                exact absurd H (by simp)
              · rw [if_neg c22] at H
                have c22b0 : decide ((l0.length : Int) ≤ (rd t368 x12_1)) = false := decide_eq_false c22
                clear c22
                by_cases c23 : 0 ≤ (rd t368 x12_1)
                · rw [if_pos c23] at H
                  have c23b0 : decide (0 ≤ (rd t368 x12_1)) = true := decide_eq_true c23
                  clear c23
                  by_cases c24 : (rd t368 x12_1) < (l0.length : Int)
                  · rw [if_pos c24] at H
                    have c24b0 : decide ((rd t368 x12_1) < (l0.length : Int)) = true := decide_eq_true c24
                    clear c24
                    by_cases c25 : ((rd_T31 l0 (rd t368 x12_1)).f0) = a2_0
                    · rw [if_pos c25] at H
                      have c25b0 : (((rd_T31 l0 (rd t368 x12_1)).f0) == a2_0) = true := beq_iff_eq.mpr c25
                      have c25b1 : (((rd_T31 l0 (rd t368 x12_1)).f0) != a2_0) = false := bne_eq_false_iff_eq.mpr c25
                      clear c25
                      by_cases c26 : ((rd_T31 l0 (rd t368 x12_1)).f1) = a2_1
                      · rw [if_pos c26] at H
                        have c26b0 : (((rd_T31 l0 (rd t368 x12_1)).f1) == a2_1) = true := beq_iff_eq.mpr c26
                        have c26b1 : (((rd_T31 l0 (rd t368 x12_1)).f1) != a2_1) = false := bne_eq_false_iff_eq.mpr c26
                        clear c26
                        by_cases c27 : x12_1 > 0
                        · rw [if_pos c27] at H
                          have c27b0 : decide (0 < x12_1) = true := decide_eq_true c27
                          clear c27
                          obtain ⟨ji28, hji28⟩ : ∃ j_ : Int, (wrap64 (x12_1 - 1)) = j_ := ⟨_, rfl⟩
                          replace H : (if 0 ≤ (ji28) then (if (ji28) < (t368.length : Int) then (if (rd t368 (ji28)) ≥ (rd t368 x12_1) then (none) else (batonlaw12_BagCounts.l0 k1 l0 a1 t363 t366 t368 t371 (wrap64 (x12_1 + 1)) a2_0 a2_1 t360 t361 t362)) else (none)) else (none)) = some r := by first | (rw [hji28] at H; exact H) | (simp only [hji28] at H ⊢; exact H)
                          have hji28w : (IntKind.i64.wrap (x12_1 - 1)) = ji28 := (i64_w _).trans hji28
                          by_cases c29 : 0 ≤ (ji28)
                          · rw [if_pos c29] at H
                            have c29b0 : decide (0 ≤ (ji28)) = true := decide_eq_true c29
                            clear c29
                            by_cases c30 : (ji28) < (t368.length : Int)
                            · rw [if_pos c30] at H
                              have c30b0 : decide ((ji28) < (t368.length : Int)) = true := decide_eq_true c30
                              clear c30
                              by_cases c31 : (rd t368 (ji28)) ≥ (rd t368 x12_1)
                              · rw [if_pos c31] at H
                                exact absurd H (by simp)
                              · rw [if_neg c31] at H
                                have c31b0 : decide ((rd t368 x12_1) ≤ (rd t368 (ji28))) = false := decide_eq_false c31
                                clear c31
                                have H' := Aside0.mk H
                                clear H
                                obtain ⟨Ao32, co32, eo32⟩ := Kd.R_slice HO_10.out
                                subst eo32
                                have p374 : 0 ≤ (x12_1 : Int) := of_decide_eq_true (by first | (with_reducible assumption) | assumption)
                                have q374 : x12_1 < (t368.length : Int) := of_decide_eq_true (by first | (with_reducible assumption) | assumption)
                                obtain ⟨ad374, e374, hx374_0⟩ := Kd.at_int (Kd.R_reads' HO_10.out).2.2 x12_1 p374 q374
                                cases e374
                                replace p374 := eq_true p374
                                replace q374 := eq_true q374
                                have p375 : 0 ≤ (x12_1 : Int) := of_decide_eq_true (by first | (with_reducible assumption) | assumption)
                                have q375 : x12_1 < (t368.length : Int) := of_decide_eq_true (by first | (with_reducible assumption) | assumption)
                                obtain ⟨ad375, e375, hx375_0⟩ := Kd.at_int (Kd.R_reads' HO_10.out).2.2 x12_1 p375 q375
                                obtain rfl : ad374 = ad375 := (by injection e375)
                                replace p375 := eq_true p375
                                replace q375 := eq_true q375
                                have p376 : 0 ≤ (x12_1 : Int) := of_decide_eq_true (by first | (with_reducible assumption) | assumption)
                                have q376 : x12_1 < (t368.length : Int) := of_decide_eq_true (by first | (with_reducible assumption) | assumption)
                                obtain ⟨ad376, e376, hx376_0⟩ := Kd.at_int (Kd.R_reads' HO_10.out).2.2 x12_1 p376 q376
                                obtain rfl : ad374 = ad376 := (by injection e376)
                                replace p376 := eq_true p376
                                replace q376 := eq_true q376
                                have p377 : 0 ≤ ((rd t368 x12_1) : Int) := of_decide_eq_true (by first | (with_reducible assumption) | assumption)
                                have q377 : (rd t368 x12_1) < (l0.length : Int) := of_decide_eq_true (by first | (with_reducible assumption) | assumption)
                                obtain ⟨ad377, e377, hx377_0, hx377_1, hx377_2⟩ := at_T31 HR0.out (rd t368 x12_1) p377 q377
                                cases e377
                                replace hx377_0 := (HB.out.cell (World.block_lt_of_cell? w _ hx377_0)).trans hx377_0
                                replace hx377_1 := (HB.out.cell (World.block_lt_of_cell? w _ hx377_1)).trans hx377_1
                                replace hx377_2 := (HB.out.cell (World.block_lt_of_cell? w _ hx377_2)).trans hx377_2
                                replace p377 := eq_true p377
                                replace q377 := eq_true q377
                                have hnb33 := NB357_367.out
                                have hnc33 := NB367_357.out
                                have hcz34_0 : wr.cell? ⟨gb357, 0, none⟩ = some (.int .i64 a2_0) := (blk_cell BK357.out 0).trans rfl
                                have hcz34_1 : wr.cell? ⟨gb357, 1, none⟩ = some (.int .i64 a2_1) := (blk_cell BK357.out 1).trans rfl
                                have hfz34_0 := blk_frozen BK357.out 0
                                have hfz34_1 := blk_frozen BK357.out 1
                                have p378 : 0 ≤ (x12_1 : Int) := of_decide_eq_true (by first | (with_reducible assumption) | assumption)
                                have q378 : x12_1 < (t368.length : Int) := of_decide_eq_true (by first | (with_reducible assumption) | assumption)
                                obtain ⟨ad378, e378, hx378_0⟩ := Kd.at_int (Kd.R_reads' HO_10.out).2.2 x12_1 p378 q378
                                obtain rfl : ad374 = ad378 := (by injection e378)
                                replace p378 := eq_true p378
                                replace q378 := eq_true q378
                                have p379 : 0 ≤ ((rd t368 x12_1) : Int) := of_decide_eq_true (by first | (with_reducible assumption) | assumption)
                                have q379 : (rd t368 x12_1) < (l0.length : Int) := of_decide_eq_true (by first | (with_reducible assumption) | assumption)
                                obtain ⟨ad379, e379, hx379_0, hx379_1, hx379_2⟩ := at_T31 HR0.out (rd t368 x12_1) p379 q379
                                obtain rfl : ad377 = ad379 := (by injection e379)
                                replace hx379_0 := (HB.out.cell (World.block_lt_of_cell? w _ hx379_0)).trans hx379_0
                                replace hx379_1 := (HB.out.cell (World.block_lt_of_cell? w _ hx379_1)).trans hx379_1
                                replace hx379_2 := (HB.out.cell (World.block_lt_of_cell? w _ hx379_2)).trans hx379_2
                                replace p379 := eq_true p379
                                replace q379 := eq_true q379
                                have p380 : 0 ≤ ((ji28) : Int) := of_decide_eq_true (by first | (with_reducible assumption) | assumption)
                                have q380 : (ji28) < (t368.length : Int) := of_decide_eq_true (by first | (with_reducible assumption) | assumption)
                                obtain ⟨ad380, e380, hx380_0⟩ := Kd.at_int (Kd.R_reads' HO_10.out).2.2 (ji28) p380 q380
                                obtain rfl : ad374 = ad380 := (by injection e380)
                                replace p380 := eq_true p380
                                replace q380 := eq_true q380
                                have p381 : 0 ≤ (x12_1 : Int) := of_decide_eq_true (by first | (with_reducible assumption) | assumption)
                                have q381 : x12_1 < (t368.length : Int) := of_decide_eq_true (by first | (with_reducible assumption) | assumption)
                                obtain ⟨ad381, e381, hx381_0⟩ := Kd.at_int (Kd.R_reads' HO_10.out).2.2 x12_1 p381 q381
                                obtain rfl : ad374 = ad381 := (by injection e381)
                                replace p381 := eq_true p381
                                replace q381 := eq_true q381
                                go_wp2
                                repeat (go_quiet (fail); try go_wp2)
                                go_roundg k1
                                case measure => have := HK1.out; omega
                                case rel => exact ⟨(wrap64 (x12_1 + 1)), (by first | rfl | (simp; done) | (simp [*]; done)), H', ⟨by have := HK1.out; omega⟩, ⟨by (with_reducible repeat (first | apply Kd.V_alloc | apply Kd.V_drewN | apply Kd.V_drew)); exact HO_8.out⟩, ⟨by (with_reducible repeat (first | apply Kd.R_alloc | apply Kd.R_drewN | apply Kd.R_drew)); exact HO_10.out⟩, ⟨by (with_reducible repeat (first | apply Kd.R_alloc | apply Kd.R_drewN | apply Kd.R_drew)); exact HO_11.out⟩, ⟨by (with_reducible repeat (first | refine blk_drewN ?_ _ | refine blk_drew ?_ | refine blk_alloc ?_ _)); exact BK357.out⟩, ⟨by (with_reducible repeat (first | refine blk_drewN ?_ _ | refine blk_drew ?_ | refine blk_alloc ?_ _)); exact BK367.out⟩, ⟨by repeat (first | (with_reducible first | exact HB.out | apply below_alloc | apply pw_below_drewN | apply below_drew1 | refine below_set ?_ GE357.out | refine below_set ?_ GE367.out) | exact HB.out)⟩⟩
                            · rw [if_neg c30] at H
                              exact absurd H (by simp)
                          · rw [if_neg c29] at H
                            exact absurd H (by simp)
                        · rw [if_neg c27] at H
                          have c27b0 : decide (0 < x12_1) = false := decide_eq_false c27
                          clear c27
                          have H' := Aside0.mk H
                          clear H
                          obtain ⟨Ao35, co35, eo35⟩ := Kd.R_slice HO_10.out
                          subst eo35
                          have p374 : 0 ≤ (x12_1 : Int) := of_decide_eq_true (by first | (with_reducible assumption) | assumption)
                          have q374 : x12_1 < (t368.length : Int) := of_decide_eq_true (by first | (with_reducible assumption) | assumption)
                          obtain ⟨ad374, e374, hx374_0⟩ := Kd.at_int (Kd.R_reads' HO_10.out).2.2 x12_1 p374 q374
                          cases e374
                          replace p374 := eq_true p374
                          replace q374 := eq_true q374
                          have p375 : 0 ≤ (x12_1 : Int) := of_decide_eq_true (by first | (with_reducible assumption) | assumption)
                          have q375 : x12_1 < (t368.length : Int) := of_decide_eq_true (by first | (with_reducible assumption) | assumption)
                          obtain ⟨ad375, e375, hx375_0⟩ := Kd.at_int (Kd.R_reads' HO_10.out).2.2 x12_1 p375 q375
                          obtain rfl : ad374 = ad375 := (by injection e375)
                          replace p375 := eq_true p375
                          replace q375 := eq_true q375
                          have p376 : 0 ≤ (x12_1 : Int) := of_decide_eq_true (by first | (with_reducible assumption) | assumption)
                          have q376 : x12_1 < (t368.length : Int) := of_decide_eq_true (by first | (with_reducible assumption) | assumption)
                          obtain ⟨ad376, e376, hx376_0⟩ := Kd.at_int (Kd.R_reads' HO_10.out).2.2 x12_1 p376 q376
                          obtain rfl : ad374 = ad376 := (by injection e376)
                          replace p376 := eq_true p376
                          replace q376 := eq_true q376
                          have p377 : 0 ≤ ((rd t368 x12_1) : Int) := of_decide_eq_true (by first | (with_reducible assumption) | assumption)
                          have q377 : (rd t368 x12_1) < (l0.length : Int) := of_decide_eq_true (by first | (with_reducible assumption) | assumption)
                          obtain ⟨ad377, e377, hx377_0, hx377_1, hx377_2⟩ := at_T31 HR0.out (rd t368 x12_1) p377 q377
                          cases e377
                          replace hx377_0 := (HB.out.cell (World.block_lt_of_cell? w _ hx377_0)).trans hx377_0
                          replace hx377_1 := (HB.out.cell (World.block_lt_of_cell? w _ hx377_1)).trans hx377_1
                          replace hx377_2 := (HB.out.cell (World.block_lt_of_cell? w _ hx377_2)).trans hx377_2
                          replace p377 := eq_true p377
                          replace q377 := eq_true q377
                          have hnb36 := NB357_367.out
                          have hnc36 := NB367_357.out
                          have hcz37_0 : wr.cell? ⟨gb357, 0, none⟩ = some (.int .i64 a2_0) := (blk_cell BK357.out 0).trans rfl
                          have hcz37_1 : wr.cell? ⟨gb357, 1, none⟩ = some (.int .i64 a2_1) := (blk_cell BK357.out 1).trans rfl
                          have hfz37_0 := blk_frozen BK357.out 0
                          have hfz37_1 := blk_frozen BK357.out 1
                          have p378 : 0 ≤ (x12_1 : Int) := of_decide_eq_true (by first | (with_reducible assumption) | assumption)
                          have q378 : x12_1 < (t368.length : Int) := of_decide_eq_true (by first | (with_reducible assumption) | assumption)
                          obtain ⟨ad378, e378, hx378_0⟩ := Kd.at_int (Kd.R_reads' HO_10.out).2.2 x12_1 p378 q378
                          obtain rfl : ad374 = ad378 := (by injection e378)
                          replace p378 := eq_true p378
                          replace q378 := eq_true q378
                          have p379 : 0 ≤ ((rd t368 x12_1) : Int) := of_decide_eq_true (by first | (with_reducible assumption) | assumption)
                          have q379 : (rd t368 x12_1) < (l0.length : Int) := of_decide_eq_true (by first | (with_reducible assumption) | assumption)
                          obtain ⟨ad379, e379, hx379_0, hx379_1, hx379_2⟩ := at_T31 HR0.out (rd t368 x12_1) p379 q379
                          obtain rfl : ad377 = ad379 := (by injection e379)
                          replace hx379_0 := (HB.out.cell (World.block_lt_of_cell? w _ hx379_0)).trans hx379_0
                          replace hx379_1 := (HB.out.cell (World.block_lt_of_cell? w _ hx379_1)).trans hx379_1
                          replace hx379_2 := (HB.out.cell (World.block_lt_of_cell? w _ hx379_2)).trans hx379_2
                          replace p379 := eq_true p379
                          replace q379 := eq_true q379
                          go_wp2
                          repeat (go_quiet (fail); try go_wp2)
                          go_roundg k1
                          case measure => have := HK1.out; omega
                          case rel => exact ⟨(wrap64 (x12_1 + 1)), (by first | rfl | (simp; done) | (simp [*]; done)), H', ⟨by have := HK1.out; omega⟩, ⟨by (with_reducible repeat (first | apply Kd.V_alloc | apply Kd.V_drewN | apply Kd.V_drew)); exact HO_8.out⟩, ⟨by (with_reducible repeat (first | apply Kd.R_alloc | apply Kd.R_drewN | apply Kd.R_drew)); exact HO_10.out⟩, ⟨by (with_reducible repeat (first | apply Kd.R_alloc | apply Kd.R_drewN | apply Kd.R_drew)); exact HO_11.out⟩, ⟨by (with_reducible repeat (first | refine blk_drewN ?_ _ | refine blk_drew ?_ | refine blk_alloc ?_ _)); exact BK357.out⟩, ⟨by (with_reducible repeat (first | refine blk_drewN ?_ _ | refine blk_drew ?_ | refine blk_alloc ?_ _)); exact BK367.out⟩, ⟨by repeat (first | (with_reducible first | exact HB.out | apply below_alloc | apply pw_below_drewN | apply below_drew1 | refine below_set ?_ GE357.out | refine below_set ?_ GE367.out) | exact HB.out)⟩⟩
                      · rw [if_neg c26] at H
                        exact absurd H (by simp)
                    · rw [if_neg c25] at H
                      exact absurd H (by simp)
                  · rw [if_neg c24] at H
                    exact absurd H (by simp)
                · rw [if_neg c23] at H
                  exact absurd H (by simp)
          · rw [if_neg c20] at H
            exact absurd H (by simp)
        · rw [if_neg c19] at H
          have c19b0 : decide (x12_1 < (t368.length : Int)) = false := decide_eq_false c19
          clear c19
          have HC38 := Aside0.mk H
          clear H
          obtain ⟨Ao39, co39, eo39⟩ := Kd.R_slice HO_10.out
          subst eo39
          go_upto_region 12 with (fail)
          repeat (go_quiet (fail); go_upto_region 12 with (fail))
          go_cut [116] (fun v116 wc => ∃ (kq : Nat) (x116_37 : Bool), v116 = .bool x116_37 ∧ Aside0 (batonlaw12_BagCounts.j1 kq l0 a1 t363 t366 t368 t371 0 x116_37 = some r) ∧ Aside0 (kq ≤ k1) ∧ Aside0 (Kd.V k31 31 wc w.heap.size (fun k_ => some k_ ≠ ((.slice Ao39 t368.length co39) : Value).ownBlock ∧ some k_ ≠ (v372 : Value).ownBlock ∧ k_ ≠ gb357 ∧ k_ ≠ gb367) (.slice Ao17 t363.length co17) t363) ∧ Aside0 (Kd.R (Kd.int .i64) 3 wc w.heap.size (fun k_ => some k_ ≠ (v372 : Value).ownBlock) (.slice Ao39 t368.length co39) t368) ∧ Aside0 (Kd.R (Kd.int .i64) 3 wc w.heap.size (fun k_ => some k_ ≠ ((.slice Ao39 t368.length co39) : Value).ownBlock) v372 t371) ∧ Aside0 (wc.heap[gb357]? = some (.cells #[.int .i64 a2_0, .int .i64 a2_1] 29 (0, 0))) ∧ Aside0 (wc.heap[gb367]? = some (.cells #[.int .i64 t360, .int .i64 t361, .string t362] 31 (0, 0))) ∧ Aside0 (Below w.heap.size w wc))
          case first =>
            have H := HC38.out
            clear HC38
            by_cases c40 : t366 = 0
            · rw [if_pos c40] at H
              have c40b0 : (t366 == 0) = true := beq_iff_eq.mpr c40
              have c40b1 : (t366 != 0) = false := bne_eq_false_iff_eq.mpr c40
              clear c40
              (first | rw [c40b0] | (simp only [i64_w, i32_w]; rw [c40b0]) | skip)
              by_cases c41 : t360 = a2_0
              · rw [if_pos c41] at H
                have c41b0 : (t360 == a2_0) = true := beq_iff_eq.mpr c41
                have c41b1 : (t360 != a2_0) = false := bne_eq_false_iff_eq.mpr c41
                clear c41
                have H' := Aside0.mk H
                clear H
                have hnb42 := NB367_357.out
                have hnc42 := NB357_367.out
                have hcz43_0 : wr.cell? ⟨gb367, 0, none⟩ = some (.int .i64 t360) := (blk_cell BK367.out 0).trans rfl
                have hcz43_1 : wr.cell? ⟨gb367, 1, none⟩ = some (.int .i64 t361) := (blk_cell BK367.out 1).trans rfl
                have hcz43_2 : wr.cell? ⟨gb367, 2, none⟩ = some (.string t362) := (blk_cell BK367.out 2).trans rfl
                have hfz43_0 := blk_frozen BK367.out 0
                have hfz43_1 := blk_frozen BK367.out 1
                have hfz43_2 := blk_frozen BK367.out 2
                have hcz44_0 : wr.cell? ⟨gb357, 0, none⟩ = some (.int .i64 a2_0) := (blk_cell BK357.out 0).trans rfl
                have hcz44_1 : wr.cell? ⟨gb357, 1, none⟩ = some (.int .i64 a2_1) := (blk_cell BK357.out 1).trans rfl
                have hfz44_0 := blk_frozen BK357.out 0
                have hfz44_1 := blk_frozen BK357.out 1
                go_wp2
                repeat (go_quiet (fail); try go_wp2)
                go_meet
                case rel => exact ⟨_, ((t361 == a2_1)), (by first | rfl | (simp; done) | (simp [*]; done)), H', ⟨by have := HK1.out; first | omega | exact Nat.le_refl _⟩, ⟨by (with_reducible repeat (first | apply Kd.V_alloc | apply Kd.V_drewN | apply Kd.V_drew)); exact HO_8.out⟩, ⟨by (with_reducible repeat (first | apply Kd.R_alloc | apply Kd.R_drewN | apply Kd.R_drew)); exact HO_10.out⟩, ⟨by (with_reducible repeat (first | apply Kd.R_alloc | apply Kd.R_drewN | apply Kd.R_drew)); exact HO_11.out⟩, ⟨by (with_reducible repeat (first | refine blk_drewN ?_ _ | refine blk_drew ?_ | refine blk_alloc ?_ _)); exact BK357.out⟩, ⟨by (with_reducible repeat (first | refine blk_drewN ?_ _ | refine blk_drew ?_ | refine blk_alloc ?_ _)); exact BK367.out⟩, ⟨by repeat (first | (with_reducible first | exact HB.out | apply below_alloc | apply pw_below_drewN | apply below_drew1 | refine below_set ?_ GE357.out | refine below_set ?_ GE367.out) | exact HB.out)⟩⟩
              · rw [if_neg c41] at H
                have c41b0 : (t360 == a2_0) = false := beq_eq_false_iff_ne.mpr c41
                have c41b1 : (t360 != a2_0) = true := bne_iff_ne.mpr c41
                have H' := Aside0.mk H
                clear H
                have hnb45 := NB367_357.out
                have hnc45 := NB357_367.out
                have hcz46_0 : wr.cell? ⟨gb367, 0, none⟩ = some (.int .i64 t360) := (blk_cell BK367.out 0).trans rfl
                have hcz46_1 : wr.cell? ⟨gb367, 1, none⟩ = some (.int .i64 t361) := (blk_cell BK367.out 1).trans rfl
                have hcz46_2 : wr.cell? ⟨gb367, 2, none⟩ = some (.string t362) := (blk_cell BK367.out 2).trans rfl
                have hfz46_0 := blk_frozen BK367.out 0
                have hfz46_1 := blk_frozen BK367.out 1
                have hfz46_2 := blk_frozen BK367.out 2
                have hcz47_0 : wr.cell? ⟨gb357, 0, none⟩ = some (.int .i64 a2_0) := (blk_cell BK357.out 0).trans rfl
                have hcz47_1 : wr.cell? ⟨gb357, 1, none⟩ = some (.int .i64 a2_1) := (blk_cell BK357.out 1).trans rfl
                have hfz47_0 := blk_frozen BK357.out 0
                have hfz47_1 := blk_frozen BK357.out 1
                go_wp2
                repeat (go_quiet (fail); try go_wp2)
                go_meet
                case rel => exact ⟨_, (false), (by first | rfl | (simp; done) | (simp [*]; done)), H', ⟨by have := HK1.out; first | omega | exact Nat.le_refl _⟩, ⟨by (with_reducible repeat (first | apply Kd.V_alloc | apply Kd.V_drewN | apply Kd.V_drew)); exact HO_8.out⟩, ⟨by (with_reducible repeat (first | apply Kd.R_alloc | apply Kd.R_drewN | apply Kd.R_drew)); exact HO_10.out⟩, ⟨by (with_reducible repeat (first | apply Kd.R_alloc | apply Kd.R_drewN | apply Kd.R_drew)); exact HO_11.out⟩, ⟨by (with_reducible repeat (first | refine blk_drewN ?_ _ | refine blk_drew ?_ | refine blk_alloc ?_ _)); exact BK357.out⟩, ⟨by (with_reducible repeat (first | refine blk_drewN ?_ _ | refine blk_drew ?_ | refine blk_alloc ?_ _)); exact BK367.out⟩, ⟨by repeat (first | (with_reducible first | exact HB.out | apply below_alloc | apply pw_below_drewN | apply below_drew1 | refine below_set ?_ GE357.out | refine below_set ?_ GE367.out) | exact HB.out)⟩⟩
            · rw [if_neg c40] at H
              have c40b0 : (t366 == 0) = false := beq_eq_false_iff_ne.mpr c40
              have c40b1 : (t366 != 0) = true := bne_iff_ne.mpr c40
              (first | rw [c40b0] | (simp only [i64_w, i32_w]; rw [c40b0]) | skip)
              have H' := Aside0.mk H
              clear H
              go_wp2
              repeat (go_quiet (fail); try go_wp2)
              go_meet
              case rel => exact ⟨_, (false), (by first | rfl | (simp; done) | (simp [*]; done)), H', ⟨by have := HK1.out; first | omega | exact Nat.le_refl _⟩, ⟨by (with_reducible repeat (first | apply Kd.V_alloc | apply Kd.V_drewN | apply Kd.V_drew)); exact HO_8.out⟩, ⟨by (with_reducible repeat (first | apply Kd.R_alloc | apply Kd.R_drewN | apply Kd.R_drew)); exact HO_10.out⟩, ⟨by (with_reducible repeat (first | apply Kd.R_alloc | apply Kd.R_drewN | apply Kd.R_drew)); exact HO_11.out⟩, ⟨by (with_reducible repeat (first | refine blk_drewN ?_ _ | refine blk_drew ?_ | refine blk_alloc ?_ _)); exact BK357.out⟩, ⟨by (with_reducible repeat (first | refine blk_drewN ?_ _ | refine blk_drew ?_ | refine blk_alloc ?_ _)); exact BK367.out⟩, ⟨by repeat (first | (with_reducible first | exact HB.out | apply below_alloc | apply pw_below_drewN | apply below_drew1 | refine below_set ?_ GE357.out | refine below_set ?_ GE367.out) | exact HB.out)⟩⟩
          case rest =>
            clear HC38
            try clear c1
            try clear c2
            try clear p2
            try clear c3
            try clear p3
            try clear q3
            try clear hx3
            try clear c4
            try clear c5
            try clear p6
            try clear c7
            try clear c12
            try clear c19
            try clear c19b0
            try clear c20
            try clear c20b0
            try clear c21
            try clear c21b0
            try clear c22
            try clear c22b0
            try clear c23
            try clear c23b0
            try clear c24
            try clear c24b0
            try clear c25
            try clear c25b0
            try clear c25b1
            try clear c26
            try clear c26b0
            try clear c26b1
            try clear c27
            try clear c27b0
            try clear c29
            try clear c29b0
            try clear c30
            try clear c30b0
            try clear c31
            try clear c31b0
            try clear c33
            try clear c36
            try clear p37
            try clear q37
            try clear hx37
            try clear p38
            try clear q38
            try clear hx38
            try clear c40
            try clear c40b0
            try clear c40b1
            try clear c41
            try clear c41b0
            try clear c41b1
            try clear c42
            try clear c45
            try clear hcz13_0
            try clear hcz13_1
            try clear hcz13_2
            try clear hcz14_0
            try clear hcz14_1
            try clear hcz16_0
            try clear hcz16_1
            try clear hcz34_0
            try clear hcz34_1
            try clear hcz37_0
            try clear hcz37_1
            try clear hcz43_0
            try clear hcz43_1
            try clear hcz43_2
            try clear hcz44_0
            try clear hcz44_1
            try clear hcz46_0
            try clear hcz46_1
            try clear hcz46_2
            try clear hcz47_0
            try clear hcz47_1
            try clear hfz13_0
            try clear hfz13_1
            try clear hfz13_2
            try clear hfz14_0
            try clear hfz14_1
            try clear hfz16_0
            try clear hfz16_1
            try clear hfz34_0
            try clear hfz34_1
            try clear hfz37_0
            try clear hfz37_1
            try clear hfz43_0
            try clear hfz43_1
            try clear hfz43_2
            try clear hfz44_0
            try clear hfz44_1
            try clear hfz46_0
            try clear hfz46_1
            try clear hfz46_2
            try clear hfz47_0
            try clear hfz47_1
            try clear hx374_0
            try clear hx375_0
            try clear hx376_0
            try clear hx377_0
            try clear hx377_1
            try clear hx377_2
            try clear hx378_0
            try clear hx379_0
            try clear hx379_1
            try clear hx379_2
            try clear hx380_0
            try clear hx381_0
            try clear p2
            try clear p374
            try clear p375
            try clear p376
            try clear p377
            try clear p378
            try clear p379
            try clear p380
            try clear p381
            try clear q374
            try clear q375
            try clear q376
            try clear q377
            try clear q378
            try clear q379
            try clear q380
            try clear q381
            obtain ⟨kq, x116_37, rfl, HA, HJ37, HO_8, HO_10, HO_11, BK357, BK367, HB⟩ := hcut
            cases kq with
            | zero => exact absurd HA.out (by simp [batonlaw12_BagCounts.j1])
            | succ kj37 =>
              have H := HA.out
              clear HA
              simp only [batonlaw12_BagCounts.j1] at H
              have HC48 := Aside0.mk H
              clear H
              go_upto_if 116 with (fail)
              repeat (go_quiet (fail); go_upto_if 116 with (fail))
              go_cut [13] (fun v13 wc => ∃ (kq : Nat) (x13_47 : Int), v13 = .int .i64 x13_47 ∧ Aside0 (batonlaw12_BagCounts.j2 kq l0 a1 t363 t366 t368 t371 x13_47 = some r) ∧ Aside0 (kq ≤ kj37) ∧ Aside0 (Kd.V k31 31 wc w.heap.size (fun k_ => some k_ ≠ ((.slice Ao39 t368.length co39) : Value).ownBlock ∧ some k_ ≠ (v372 : Value).ownBlock ∧ k_ ≠ gb357 ∧ k_ ≠ gb367) (.slice Ao17 t363.length co17) t363) ∧ Aside0 (Kd.R (Kd.int .i64) 3 wc w.heap.size (fun k_ => some k_ ≠ (v372 : Value).ownBlock) (.slice Ao39 t368.length co39) t368) ∧ Aside0 (Kd.R (Kd.int .i64) 3 wc w.heap.size (fun k_ => some k_ ≠ ((.slice Ao39 t368.length co39) : Value).ownBlock) v372 t371) ∧ Aside0 (wc.heap[gb357]? = some (.cells #[.int .i64 a2_0, .int .i64 a2_1] 29 (0, 0))) ∧ Aside0 (wc.heap[gb367]? = some (.cells #[.int .i64 t360, .int .i64 t361, .string t362] 31 (0, 0))) ∧ Aside0 (Below w.heap.size w wc))
              case first =>
                have H := HC48.out
                clear HC48
                by_cases c49 : x116_37 = true
                · subst c49
                  have H1 : (batonlaw12_BagCounts.j2 kj37 l0 a1 t363 t366 t368 t371 1) = some r := by rw [if_pos rfl] at H; exact H
                  clear H
                  have H := H1
                  clear H1
                  have H' := Aside0.mk H
                  clear H
                  go_wp2
                  repeat (go_quiet (fail); try go_wp2)
                  go_meet
                  case rel => exact ⟨_, (1), (by first | rfl | (simp; done) | (simp [*]; done)), H', ⟨by have := HK1.out; have := HJ37.out; first | omega | exact Nat.le_refl _⟩, ⟨by (with_reducible repeat (first | apply Kd.V_alloc | apply Kd.V_drewN | apply Kd.V_drew)); exact HO_8.out⟩, ⟨by (with_reducible repeat (first | apply Kd.R_alloc | apply Kd.R_drewN | apply Kd.R_drew)); exact HO_10.out⟩, ⟨by (with_reducible repeat (first | apply Kd.R_alloc | apply Kd.R_drewN | apply Kd.R_drew)); exact HO_11.out⟩, ⟨by (with_reducible repeat (first | refine blk_drewN ?_ _ | refine blk_drew ?_ | refine blk_alloc ?_ _)); exact BK357.out⟩, ⟨by (with_reducible repeat (first | refine blk_drewN ?_ _ | refine blk_drew ?_ | refine blk_alloc ?_ _)); exact BK367.out⟩, ⟨by repeat (first | (with_reducible first | exact HB.out | apply below_alloc | apply pw_below_drewN | apply below_drew1 | refine below_set ?_ GE357.out | refine below_set ?_ GE367.out) | exact HB.out)⟩⟩
                · replace c49 := Bool.eq_false_iff.mpr c49
                  subst c49
                  have H1 : (batonlaw12_BagCounts.j2 kj37 l0 a1 t363 t366 t368 t371 0) = some r := by rw [if_neg (show ¬ (false = true) by decide)] at H; exact H
                  clear H
                  have H := H1
                  clear H1
                  have H' := Aside0.mk H
                  clear H
                  go_wp2
                  repeat (go_quiet (fail); try go_wp2)
                  go_meet
                  case rel => exact ⟨_, (0), (by first | rfl | (simp; done) | (simp [*]; done)), H', ⟨by have := HK1.out; have := HJ37.out; first | omega | exact Nat.le_refl _⟩, ⟨by (with_reducible repeat (first | apply Kd.V_alloc | apply Kd.V_drewN | apply Kd.V_drew)); exact HO_8.out⟩, ⟨by (with_reducible repeat (first | apply Kd.R_alloc | apply Kd.R_drewN | apply Kd.R_drew)); exact HO_10.out⟩, ⟨by (with_reducible repeat (first | apply Kd.R_alloc | apply Kd.R_drewN | apply Kd.R_drew)); exact HO_11.out⟩, ⟨by (with_reducible repeat (first | refine blk_drewN ?_ _ | refine blk_drew ?_ | refine blk_alloc ?_ _)); exact BK357.out⟩, ⟨by (with_reducible repeat (first | refine blk_drewN ?_ _ | refine blk_drew ?_ | refine blk_alloc ?_ _)); exact BK367.out⟩, ⟨by repeat (first | (with_reducible first | exact HB.out | apply below_alloc | apply pw_below_drewN | apply below_drew1 | refine below_set ?_ GE357.out | refine below_set ?_ GE367.out) | exact HB.out)⟩⟩
              case rest =>
                clear HC48
                try clear c1
                try clear c2
                try clear p2
                try clear c3
                try clear p3
                try clear q3
                try clear hx3
                try clear c4
                try clear c5
                try clear p6
                try clear c7
                try clear c12
                try clear c19
                try clear c19b0
                try clear c20
                try clear c20b0
                try clear c21
                try clear c21b0
                try clear c22
                try clear c22b0
                try clear c23
                try clear c23b0
                try clear c24
                try clear c24b0
                try clear c25
                try clear c25b0
                try clear c25b1
                try clear c26
                try clear c26b0
                try clear c26b1
                try clear c27
                try clear c27b0
                try clear c29
                try clear c29b0
                try clear c30
                try clear c30b0
                try clear c31
                try clear c31b0
                try clear c33
                try clear c36
                try clear p37
                try clear q37
                try clear hx37
                try clear p38
                try clear q38
                try clear hx38
                try clear c40
                try clear c40b0
                try clear c40b1
                try clear c41
                try clear c41b0
                try clear c41b1
                try clear c42
                try clear c45
                try clear c49
                try clear hcz13_0
                try clear hcz13_1
                try clear hcz13_2
                try clear hcz14_0
                try clear hcz14_1
                try clear hcz16_0
                try clear hcz16_1
                try clear hcz34_0
                try clear hcz34_1
                try clear hcz37_0
                try clear hcz37_1
                try clear hcz43_0
                try clear hcz43_1
                try clear hcz43_2
                try clear hcz44_0
                try clear hcz44_1
                try clear hcz46_0
                try clear hcz46_1
                try clear hcz46_2
                try clear hcz47_0
                try clear hcz47_1
                try clear hfz13_0
                try clear hfz13_1
                try clear hfz13_2
                try clear hfz14_0
                try clear hfz14_1
                try clear hfz16_0
                try clear hfz16_1
                try clear hfz34_0
                try clear hfz34_1
                try clear hfz37_0
                try clear hfz37_1
                try clear hfz43_0
                try clear hfz43_1
                try clear hfz43_2
                try clear hfz44_0
                try clear hfz44_1
                try clear hfz46_0
                try clear hfz46_1
                try clear hfz46_2
                try clear hfz47_0
                try clear hfz47_1
                try clear hx374_0
                try clear hx375_0
                try clear hx376_0
                try clear hx377_0
                try clear hx377_1
                try clear hx377_2
                try clear hx378_0
                try clear hx379_0
                try clear hx379_1
                try clear hx379_2
                try clear hx380_0
                try clear hx381_0
                try clear p2
                try clear p3
                try clear p37
                try clear p374
                try clear p375
                try clear p376
                try clear p377
                try clear p378
                try clear p379
                try clear p38
                try clear p380
                try clear p381
                try clear p6
                try clear q3
                try clear q37
                try clear q374
                try clear q375
                try clear q376
                try clear q377
                try clear q378
                try clear q379
                try clear q38
                try clear q380
                try clear q381
                obtain ⟨kq, x13_47, rfl, HA, HJ47, HO_8, HO_10, HO_11, BK357, BK367, HB⟩ := hcut
                cases kq with
                | zero => exact absurd HA.out (by simp [batonlaw12_BagCounts.j2])
                | succ kj47 =>
                  have H := HA.out
                  clear HA
                  simp only [batonlaw12_BagCounts.j2] at H
                  by_cases c50 : (t371.length : Int) = (wrap64 ((t368.length : Int) - x13_47))
                  · rw [if_pos c50] at H
                    have c50b0 : ((t371.length : Int) == (wrap64 ((t368.length : Int) - x13_47))) = true := beq_iff_eq.mpr c50
                    have c50b1 : ((t371.length : Int) != (wrap64 ((t368.length : Int) - x13_47))) = false := bne_eq_false_iff_eq.mpr c50
                    clear c50
                    have H' := Aside0.mk H
                    clear H
                    obtain ⟨Ao51, co51, eo51⟩ := Kd.R_slice HO_11.out
                    subst eo51
                    go_wp2
                    repeat (go_quiet (fail); try go_wp2)
                    go_loopg [14, 15] kj47 (fun kq v14 v15 w' => ∃ (x14_4 : Int) (x15_4 : Int), v14 = .int .i64 x14_4 ∧ v15 = .int .i64 x15_4 ∧ Aside0 (batonlaw12_BagCounts.l1 kq l0 a1 t363 t366 x14_4 x15_4 = some r) ∧ Aside0 (kq ≤ kj47) ∧ Aside0 (Kd.V k31 31 w' w.heap.size (fun k_ => k_ ≠ gb357 ∧ k_ ≠ gb367) (.slice Ao17 t363.length co17) t363) ∧ Aside0 (w'.heap[gb357]? = some (.cells #[.int .i64 a2_0, .int .i64 a2_1] 29 (0, 0))) ∧ Aside0 (w'.heap[gb367]? = some (.cells #[.int .i64 t360, .int .i64 t361, .string t362] 31 (0, 0))) ∧ Aside0 (Below w.heap.size w w'))
                    case atStart => exact ⟨(0), (0), (by first | rfl | (simp; done) | (simp [*]; done)), (by first | rfl | (simp; done) | (simp [*]; done)), H', ⟨Nat.le_refl _⟩, ⟨by (with_reducible repeat (first | apply Kd.V_alloc | apply Kd.V_drewN | apply Kd.V_drew)); exact Kd.V_mono HO_8.out (fun _ hk => ⟨hk.2.2.1, hk.2.2.2⟩)⟩, ⟨by (with_reducible repeat (first | refine blk_drewN ?_ _ | refine blk_drew ?_ | refine blk_alloc ?_ _)); exact BK357.out⟩, ⟨by (with_reducible repeat (first | refine blk_drewN ?_ _ | refine blk_drew ?_ | refine blk_alloc ?_ _)); exact BK367.out⟩, ⟨by repeat (first | (with_reducible first | exact HB.out | apply below_alloc | apply pw_below_drewN | apply below_drew1 | refine below_set ?_ GE357.out | refine below_set ?_ GE367.out) | exact HB.out)⟩⟩
                    case round =>
                      clear H'
                      try clear c1
                      try clear c2
                      try clear p2
                      try clear c3
                      try clear p3
                      try clear q3
                      try clear hx3
                      try clear c4
                      try clear c5
                      try clear p6
                      try clear c7
                      try clear c12
                      try clear c19
                      try clear c19b0
                      try clear c20
                      try clear c20b0
                      try clear c21
                      try clear c21b0
                      try clear c22
                      try clear c22b0
                      try clear c23
                      try clear c23b0
                      try clear c24
                      try clear c24b0
                      try clear c25
                      try clear c25b0
                      try clear c25b1
                      try clear c26
                      try clear c26b0
                      try clear c26b1
                      try clear c27
                      try clear c27b0
                      try clear c29
                      try clear c29b0
                      try clear c30
                      try clear c30b0
                      try clear c31
                      try clear c31b0
                      try clear c33
                      try clear c36
                      try clear p37
                      try clear q37
                      try clear hx37
                      try clear p38
                      try clear q38
                      try clear hx38
                      try clear c40
                      try clear c40b0
                      try clear c40b1
                      try clear c41
                      try clear c41b0
                      try clear c41b1
                      try clear c42
                      try clear c45
                      try clear c49
                      try clear c50
                      try clear c50b0
                      try clear c50b1
                      try clear hcz13_0
                      try clear hcz13_1
                      try clear hcz13_2
                      try clear hcz14_0
                      try clear hcz14_1
                      try clear hcz16_0
                      try clear hcz16_1
                      try clear hcz34_0
                      try clear hcz34_1
                      try clear hcz37_0
                      try clear hcz37_1
                      try clear hcz43_0
                      try clear hcz43_1
                      try clear hcz43_2
                      try clear hcz44_0
                      try clear hcz44_1
                      try clear hcz46_0
                      try clear hcz46_1
                      try clear hcz46_2
                      try clear hcz47_0
                      try clear hcz47_1
                      try clear hfz13_0
                      try clear hfz13_1
                      try clear hfz13_2
                      try clear hfz14_0
                      try clear hfz14_1
                      try clear hfz16_0
                      try clear hfz16_1
                      try clear hfz34_0
                      try clear hfz34_1
                      try clear hfz37_0
                      try clear hfz37_1
                      try clear hfz43_0
                      try clear hfz43_1
                      try clear hfz43_2
                      try clear hfz44_0
                      try clear hfz44_1
                      try clear hfz46_0
                      try clear hfz46_1
                      try clear hfz46_2
                      try clear hfz47_0
                      try clear hfz47_1
                      try clear hx374_0
                      try clear hx375_0
                      try clear hx376_0
                      try clear hx377_0
                      try clear hx377_1
                      try clear hx377_2
                      try clear hx378_0
                      try clear hx379_0
                      try clear hx379_1
                      try clear hx379_2
                      try clear hx380_0
                      try clear hx381_0
                      try clear p2
                      try clear p3
                      try clear p37
                      try clear p374
                      try clear p375
                      try clear p376
                      try clear p377
                      try clear p378
                      try clear p379
                      try clear p38
                      try clear p380
                      try clear p381
                      try clear p6
                      try clear q3
                      try clear q37
                      try clear q374
                      try clear q375
                      try clear q376
                      try clear q377
                      try clear q378
                      try clear q379
                      try clear q38
                      try clear q380
                      try clear q381
                      obtain ⟨x14_4, x15_4, rfl, rfl, HA, HK4, HO_8, BK357, BK367, HB⟩ := hrel
                      cases gk with
                      | zero => exact absurd HA.out (by simp [batonlaw12_BagCounts.l1])
                      | succ k4 =>
                        have H := HA.out
                        clear HA
                        simp only [batonlaw12_BagCounts.l1] at H
                        by_cases c52 : x15_4 < (l0.length : Int)
                        · rw [if_pos c52] at H
                          have c52b0 : decide (x15_4 < (l0.length : Int)) = true := decide_eq_true c52
                          clear c52
                          have HC53 := Aside0.mk H
                          clear H
                          go_upto_region 20 with (fail)
                          repeat (go_quiet (fail); go_upto_region 20 with (fail))
                          go_cut [136] (fun v136 wc => ∃ (kq : Nat) (x136_52 : Bool), v136 = .bool x136_52 ∧ Aside0 (batonlaw12_BagCounts.j4 kq l0 a1 t363 t366 x14_4 x15_4 x136_52 = some r) ∧ Aside0 (kq ≤ k4) ∧ Aside0 (Kd.V k31 31 wc w.heap.size (fun k_ => k_ ≠ gb357 ∧ k_ ≠ gb367) (.slice Ao17 t363.length co17) t363) ∧ Aside0 (wc.heap[gb357]? = some (.cells #[.int .i64 a2_0, .int .i64 a2_1] 29 (0, 0))) ∧ Aside0 (wc.heap[gb367]? = some (.cells #[.int .i64 t360, .int .i64 t361, .string t362] 31 (0, 0))) ∧ Aside0 (Below w.heap.size w wc))
                          case first =>
                            have H := HC53.out
                            clear HC53
                            by_cases c54 : t366 = 0
                            · rw [if_pos c54] at H
                              have c54b0 : (t366 == 0) = true := beq_iff_eq.mpr c54
                              have c54b1 : (t366 != 0) = false := bne_eq_false_iff_eq.mpr c54
                              clear c54
                              (first | rw [c54b0] | (simp only [i64_w, i32_w]; rw [c54b0]) | skip)
                              have H' := Aside0.mk H
                              clear H
                              go_wp2
                              repeat (go_quiet (fail); try go_wp2)
                              go_meet
                              case rel => exact ⟨_, ((x15_4 == a1)), (by first | rfl | (simp; done) | (simp [*]; done)), H', ⟨by have := HK1.out; have := HJ37.out; have := HJ47.out; have := HK4.out; first | omega | exact Nat.le_refl _⟩, ⟨by (with_reducible repeat (first | apply Kd.V_alloc | apply Kd.V_drewN | apply Kd.V_drew)); exact HO_8.out⟩, ⟨by (with_reducible repeat (first | refine blk_drewN ?_ _ | refine blk_drew ?_ | refine blk_alloc ?_ _)); exact BK357.out⟩, ⟨by (with_reducible repeat (first | refine blk_drewN ?_ _ | refine blk_drew ?_ | refine blk_alloc ?_ _)); exact BK367.out⟩, ⟨by repeat (first | (with_reducible first | exact HB.out | apply below_alloc | apply pw_below_drewN | apply below_drew1 | refine below_set ?_ GE357.out | refine below_set ?_ GE367.out) | exact HB.out)⟩⟩
                            · rw [if_neg c54] at H
                              have c54b0 : (t366 == 0) = false := beq_eq_false_iff_ne.mpr c54
                              have c54b1 : (t366 != 0) = true := bne_iff_ne.mpr c54
                              (first | rw [c54b0] | (simp only [i64_w, i32_w]; rw [c54b0]) | skip)
                              have H' := Aside0.mk H
                              clear H
                              go_wp2
                              repeat (go_quiet (fail); try go_wp2)
                              go_meet
                              case rel => exact ⟨_, (false), (by first | rfl | (simp; done) | (simp [*]; done)), H', ⟨by have := HK1.out; have := HJ37.out; have := HJ47.out; have := HK4.out; first | omega | exact Nat.le_refl _⟩, ⟨by (with_reducible repeat (first | apply Kd.V_alloc | apply Kd.V_drewN | apply Kd.V_drew)); exact HO_8.out⟩, ⟨by (with_reducible repeat (first | refine blk_drewN ?_ _ | refine blk_drew ?_ | refine blk_alloc ?_ _)); exact BK357.out⟩, ⟨by (with_reducible repeat (first | refine blk_drewN ?_ _ | refine blk_drew ?_ | refine blk_alloc ?_ _)); exact BK367.out⟩, ⟨by repeat (first | (with_reducible first | exact HB.out | apply below_alloc | apply pw_below_drewN | apply below_drew1 | refine below_set ?_ GE357.out | refine below_set ?_ GE367.out) | exact HB.out)⟩⟩
                          case rest =>
                            clear HC53
                            try clear c1
                            try clear c2
                            try clear p2
                            try clear c3
                            try clear p3
                            try clear q3
                            try clear hx3
                            try clear c4
                            try clear c5
                            try clear p6
                            try clear c7
                            try clear c12
                            try clear c19
                            try clear c19b0
                            try clear c20
                            try clear c20b0
                            try clear c21
                            try clear c21b0
                            try clear c22
                            try clear c22b0
                            try clear c23
                            try clear c23b0
                            try clear c24
                            try clear c24b0
                            try clear c25
                            try clear c25b0
                            try clear c25b1
                            try clear c26
                            try clear c26b0
                            try clear c26b1
                            try clear c27
                            try clear c27b0
                            try clear c29
                            try clear c29b0
                            try clear c30
                            try clear c30b0
                            try clear c31
                            try clear c31b0
                            try clear c33
                            try clear c36
                            try clear p37
                            try clear q37
                            try clear hx37
                            try clear p38
                            try clear q38
                            try clear hx38
                            try clear c40
                            try clear c40b0
                            try clear c40b1
                            try clear c41
                            try clear c41b0
                            try clear c41b1
                            try clear c42
                            try clear c45
                            try clear c49
                            try clear c50
                            try clear c50b0
                            try clear c50b1
                            try clear c52
                            try clear c52b0
                            try clear c54
                            try clear c54b0
                            try clear c54b1
                            try clear hcz13_0
                            try clear hcz13_1
                            try clear hcz13_2
                            try clear hcz14_0
                            try clear hcz14_1
                            try clear hcz16_0
                            try clear hcz16_1
                            try clear hcz34_0
                            try clear hcz34_1
                            try clear hcz37_0
                            try clear hcz37_1
                            try clear hcz43_0
                            try clear hcz43_1
                            try clear hcz43_2
                            try clear hcz44_0
                            try clear hcz44_1
                            try clear hcz46_0
                            try clear hcz46_1
                            try clear hcz46_2
                            try clear hcz47_0
                            try clear hcz47_1
                            try clear hfz13_0
                            try clear hfz13_1
                            try clear hfz13_2
                            try clear hfz14_0
                            try clear hfz14_1
                            try clear hfz16_0
                            try clear hfz16_1
                            try clear hfz34_0
                            try clear hfz34_1
                            try clear hfz37_0
                            try clear hfz37_1
                            try clear hfz43_0
                            try clear hfz43_1
                            try clear hfz43_2
                            try clear hfz44_0
                            try clear hfz44_1
                            try clear hfz46_0
                            try clear hfz46_1
                            try clear hfz46_2
                            try clear hfz47_0
                            try clear hfz47_1
                            try clear hx374_0
                            try clear hx375_0
                            try clear hx376_0
                            try clear hx377_0
                            try clear hx377_1
                            try clear hx377_2
                            try clear hx378_0
                            try clear hx379_0
                            try clear hx379_1
                            try clear hx379_2
                            try clear hx380_0
                            try clear hx381_0
                            try clear p2
                            try clear p3
                            try clear p37
                            try clear p374
                            try clear p375
                            try clear p376
                            try clear p377
                            try clear p378
                            try clear p379
                            try clear p38
                            try clear p380
                            try clear p381
                            try clear p6
                            try clear q3
                            try clear q37
                            try clear q374
                            try clear q375
                            try clear q376
                            try clear q377
                            try clear q378
                            try clear q379
                            try clear q38
                            try clear q380
                            try clear q381
                            obtain ⟨kq, x136_52, rfl, HA, HJ52, HO_8, BK357, BK367, HB⟩ := hcut
                            cases kq with
                            | zero => exact absurd HA.out (by simp [batonlaw12_BagCounts.j4])
                            | succ kj52 =>
                              have H := HA.out
                              clear HA
                              simp only [batonlaw12_BagCounts.j4] at H
                              by_cases c55 : x136_52 = true
                              · subst c55
                                have H1 : (batonlaw12_BagCounts.l1 kj52 l0 a1 t363 t366 x14_4 (wrap64 (x15_4 + 1))) = some r := by rw [if_pos rfl] at H; exact H
                                clear H
                                have H := H1
                                clear H1
                                have H' := Aside0.mk H
                                clear H
                                go_wp2
                                repeat (go_quiet (fail); try go_wp2)
                                go_roundg kj52
                                case measure => have := HK1.out; have := HJ37.out; have := HJ47.out; have := HK4.out; have := HJ52.out; omega
                                case rel => exact ⟨(x14_4), (wrap64 (x15_4 + 1)), (by first | rfl | (simp; done) | (simp [*]; done)), (by first | rfl | (simp; done) | (simp [*]; done)), H', ⟨by have := HK1.out; have := HJ37.out; have := HJ47.out; have := HK4.out; have := HJ52.out; omega⟩, ⟨by (with_reducible repeat (first | apply Kd.V_alloc | apply Kd.V_drewN | apply Kd.V_drew)); exact HO_8.out⟩, ⟨by (with_reducible repeat (first | refine blk_drewN ?_ _ | refine blk_drew ?_ | refine blk_alloc ?_ _)); exact BK357.out⟩, ⟨by (with_reducible repeat (first | refine blk_drewN ?_ _ | refine blk_drew ?_ | refine blk_alloc ?_ _)); exact BK367.out⟩, ⟨by repeat (first | (with_reducible first | exact HB.out | apply below_alloc | apply pw_below_drewN | apply below_drew1 | refine below_set ?_ GE357.out | refine below_set ?_ GE367.out) | exact HB.out)⟩⟩
                              · replace c55 := Bool.eq_false_iff.mpr c55
                                subst c55
                                have H1 : (if x14_4 ≥ (t363.length : Int) then (none) else (if 0 ≤ x14_4 then (if x14_4 < (t363.length : Int) then (if 0 ≤ x15_4 then (if x15_4 < (l0.length : Int) then (if (!(((rd_T31 t363 x14_4).f0) == ((rd_T31 l0 x15_4).f0)) || (!(((rd_T31 t363 x14_4).f1) == ((rd_T31 l0 x15_4).f1)) || (!((((rd_T31 t363 x14_4).f2).toList) == (((rd_T31 l0 x15_4).f2).toList))))) = true then (none) else (batonlaw12_BagCounts.l1 kj52 l0 a1 t363 t366 (wrap64 (x14_4 + 1)) (wrap64 (x15_4 + 1)))) else (none)) else (none)) else (none)) else (none))) = some r := by rw [if_neg (show ¬ (false = true) by decide)] at H; exact H
                                clear H
                                have H := H1
                                clear H1
                                by_cases c56 : x14_4 ≥ (t363.length : Int)
                                · rw [if_pos c56] at H
                                  exact absurd H (by simp)
                                · rw [if_neg c56] at H
                                  have c56b0 : decide ((t363.length : Int) ≤ x14_4) = false := decide_eq_false c56
                                  clear c56
                                  by_cases c57 : 0 ≤ x14_4
                                  · rw [if_pos c57] at H
                                    have c57b0 : decide (0 ≤ x14_4) = true := decide_eq_true c57
                                    clear c57
                                    by_cases c58 : x14_4 < (t363.length : Int)
                                    · rw [if_pos c58] at H
                                      have c58b0 : decide (x14_4 < (t363.length : Int)) = true := decide_eq_true c58
                                      clear c58
                                      by_cases c59 : 0 ≤ x15_4
                                      · rw [if_pos c59] at H
                                        have c59b0 : decide (0 ≤ x15_4) = true := decide_eq_true c59
                                        clear c59
                                        by_cases c60 : x15_4 < (l0.length : Int)
                                        · rw [if_pos c60] at H
                                          have c60b0 : decide (x15_4 < (l0.length : Int)) = true := decide_eq_true c60
                                          clear c60
                                          by_cases c61 : (!(((rd_T31 t363 x14_4).f0) == ((rd_T31 l0 x15_4).f0)) || (!(((rd_T31 t363 x14_4).f1) == ((rd_T31 l0 x15_4).f1)) || (!((((rd_T31 t363 x14_4).f2).toList) == (((rd_T31 l0 x15_4).f2).toList))))) = true
                                          · rw [if_pos c61] at H
                                            exact absurd H (by simp)
                                          · rw [if_neg c61] at H
                                            have c61b0 : (!(((rd_T31 t363 x14_4).f0) == ((rd_T31 l0 x15_4).f0)) || (!(((rd_T31 t363 x14_4).f1) == ((rd_T31 l0 x15_4).f1)) || (!((((rd_T31 t363 x14_4).f2).toList) == (((rd_T31 l0 x15_4).f2).toList))))) = false := by simpa using c61
                                            clear c61
                                            have H' := Aside0.mk H
                                            clear H
                                            have p383 : 0 ≤ (x14_4 : Int) := of_decide_eq_true (by first | (with_reducible assumption) | assumption)
                                            have q383 : x14_4 < (t363.length : Int) := of_decide_eq_true (by first | (with_reducible assumption) | assumption)
                                            obtain ⟨ad383, e383, hx383_0, hx383_1, hx383_2⟩ := at_T31 (Kd.V_reads' HO_8.out).2.2 x14_4 p383 q383
                                            cases e383
                                            replace p383 := eq_true p383
                                            replace q383 := eq_true q383
                                            have p384 : 0 ≤ (x15_4 : Int) := of_decide_eq_true (by first | (with_reducible assumption) | assumption)
                                            have q384 : x15_4 < (l0.length : Int) := of_decide_eq_true (by first | (with_reducible assumption) | assumption)
                                            obtain ⟨ad384, e384, hx384_0, hx384_1, hx384_2⟩ := at_T31 HR0.out x15_4 p384 q384
                                            cases e384
                                            replace hx384_0 := (HB.out.cell (World.block_lt_of_cell? w _ hx384_0)).trans hx384_0
                                            replace hx384_1 := (HB.out.cell (World.block_lt_of_cell? w _ hx384_1)).trans hx384_1
                                            replace hx384_2 := (HB.out.cell (World.block_lt_of_cell? w _ hx384_2)).trans hx384_2
                                            replace p384 := eq_true p384
                                            replace q384 := eq_true q384
                                            go_wp2
                                            repeat (go_quiet (fail); try go_wp2)
                                            go_roundg kj52
                                            case measure => have := HK1.out; have := HJ37.out; have := HJ47.out; have := HK4.out; have := HJ52.out; omega
                                            case rel => exact ⟨(wrap64 (x14_4 + 1)), (wrap64 (x15_4 + 1)), (by first | rfl | (simp; done) | (simp [*]; done)), (by first | rfl | (simp; done) | (simp [*]; done)), H', ⟨by have := HK1.out; have := HJ37.out; have := HJ47.out; have := HK4.out; have := HJ52.out; omega⟩, ⟨by (with_reducible repeat (first | apply Kd.V_alloc | apply Kd.V_drewN | apply Kd.V_drew)); exact HO_8.out⟩, ⟨by (with_reducible repeat (first | refine blk_drewN ?_ _ | refine blk_drew ?_ | refine blk_alloc ?_ _)); exact BK357.out⟩, ⟨by (with_reducible repeat (first | refine blk_drewN ?_ _ | refine blk_drew ?_ | refine blk_alloc ?_ _)); exact BK367.out⟩, ⟨by repeat (first | (with_reducible first | exact HB.out | apply below_alloc | apply pw_below_drewN | apply below_drew1 | refine below_set ?_ GE357.out | refine below_set ?_ GE367.out) | exact HB.out)⟩⟩
                                        · rw [if_neg c60] at H
                                          exact absurd H (by simp)
                                      · rw [if_neg c59] at H
                                        exact absurd H (by simp)
                                    · rw [if_neg c58] at H
                                      exact absurd H (by simp)
                                  · rw [if_neg c57] at H
                                    exact absurd H (by simp)
                        · rw [if_neg c52] at H
                          have c52b0 : decide (x15_4 < (l0.length : Int)) = false := decide_eq_false c52
                          clear c52
                          by_cases c62 : x14_4 = (t363.length : Int)
                          · rw [if_pos c62] at H
                            have c62b0 : (x14_4 == (t363.length : Int)) = true := beq_iff_eq.mpr c62
                            have c62b1 : (x14_4 != (t363.length : Int)) = false := bne_eq_false_iff_eq.mpr c62
                            clear c62
                            replace H := Option.bind_eq_some_iff.mp H
                            obtain ⟨t382, A630, H⟩ := H
                            replace H : (some t382) = some r := H
                            have A63 := Aside0.mk A630
                            clear A630
                            obtain rfl := Option.some.inj H
                            go_wp2_with (first | (go_at_call 10; (with_reducible refine (batonlaw12_live.calls k4  t382 _ A63.out).mono ?_); rintro e w64 ⟨rfl, hb⟩; have n0_ := Aside0.mk (Kd.V_below (by (with_reducible repeat (first | apply Kd.V_alloc | apply Kd.V_drewN | apply Kd.V_drew)); exact HO_8.out) hb); have n1_ := Aside0.mk (blk_below (g := gb357) (o := .cells #[.int .i64 a2_0, .int .i64 a2_1] 29 (0, 0)) (by (with_reducible repeat (first | refine blk_drewN ?_ _ | refine blk_drew ?_ | refine blk_alloc ?_ _)); exact BK357.out) hb); have n2_ := Aside0.mk (blk_below (g := gb367) (o := .cells #[.int .i64 t360, .int .i64 t361, .string t362] 31 (0, 0)) (by (with_reducible repeat (first | refine blk_drewN ?_ _ | refine blk_drew ?_ | refine blk_alloc ?_ _)); exact BK367.out) hb); have n3_ := Aside0.mk (below_step (by repeat (first | (with_reducible first | exact HB.out | apply below_alloc | apply pw_below_drewN | apply below_drew1 | refine below_set ?_ GE357.out | refine below_set ?_ GE367.out) | exact HB.out)) hb); clear HO_8; clear BK357; clear BK367; clear HB; have HO_8 := n0_; have BK357 := n1_; have BK367 := n2_; have HB := n3_; clear n0_ n1_ n2_ n3_; (try clear hb); (try clear hb2); (try clear hk); (try clear hi)))
                            repeat (go_quiet (first | (go_at_call 10; (with_reducible refine (batonlaw12_live.calls k4  t382 _ A63.out).mono ?_); rintro e w64 ⟨rfl, hb⟩; have n0_ := Aside0.mk (Kd.V_below (by (with_reducible repeat (first | apply Kd.V_alloc | apply Kd.V_drewN | apply Kd.V_drew)); exact HO_8.out) hb); have n1_ := Aside0.mk (blk_below (g := gb357) (o := .cells #[.int .i64 a2_0, .int .i64 a2_1] 29 (0, 0)) (by (with_reducible repeat (first | refine blk_drewN ?_ _ | refine blk_drew ?_ | refine blk_alloc ?_ _)); exact BK357.out) hb); have n2_ := Aside0.mk (blk_below (g := gb367) (o := .cells #[.int .i64 t360, .int .i64 t361, .string t362] 31 (0, 0)) (by (with_reducible repeat (first | refine blk_drewN ?_ _ | refine blk_drew ?_ | refine blk_alloc ?_ _)); exact BK367.out) hb); have n3_ := Aside0.mk (below_step (by repeat (first | (with_reducible first | exact HB.out | apply below_alloc | apply pw_below_drewN | apply below_drew1 | refine below_set ?_ GE357.out | refine below_set ?_ GE367.out) | exact HB.out)) hb); clear HO_8; clear BK357; clear BK367; clear HB; have HO_8 := n0_; have BK357 := n1_; have BK367 := n2_; have HB := n3_; clear n0_ n1_ n2_ n3_; (try clear hb); (try clear hb2); (try clear hk); (try clear hi))); try go_wp2_with (first | (go_at_call 10; (with_reducible refine (batonlaw12_live.calls k4  t382 _ A63.out).mono ?_); rintro e w64 ⟨rfl, hb⟩; have n0_ := Aside0.mk (Kd.V_below (by (with_reducible repeat (first | apply Kd.V_alloc | apply Kd.V_drewN | apply Kd.V_drew)); exact HO_8.out) hb); have n1_ := Aside0.mk (blk_below (g := gb357) (o := .cells #[.int .i64 a2_0, .int .i64 a2_1] 29 (0, 0)) (by (with_reducible repeat (first | refine blk_drewN ?_ _ | refine blk_drew ?_ | refine blk_alloc ?_ _)); exact BK357.out) hb); have n2_ := Aside0.mk (blk_below (g := gb367) (o := .cells #[.int .i64 t360, .int .i64 t361, .string t362] 31 (0, 0)) (by (with_reducible repeat (first | refine blk_drewN ?_ _ | refine blk_drew ?_ | refine blk_alloc ?_ _)); exact BK367.out) hb); have n3_ := Aside0.mk (below_step (by repeat (first | (with_reducible first | exact HB.out | apply below_alloc | apply pw_below_drewN | apply below_drew1 | refine below_set ?_ GE357.out | refine below_set ?_ GE367.out) | exact HB.out)) hb); clear HO_8; clear BK357; clear BK367; clear HB; have HO_8 := n0_; have BK357 := n1_; have BK367 := n2_; have HB := n3_; clear n0_ n1_ n2_ n3_; (try clear hb); (try clear hb2); (try clear hk); (try clear hi))))
                            go_ret
                            exact ⟨by first | rfl | (simp [errW_none, errW_some] <;> rfl) | (simp [*, errW_none, errW_some] <;> rfl), by repeat (first | (with_reducible first | exact HB.out | apply below_alloc | apply pw_below_drewN | apply below_drew1 | refine below_set ?_ GE357.out | refine below_set ?_ GE367.out) | exact HB.out)⟩
                          · rw [if_neg c62] at H
                            exact absurd H (by simp)
                  · rw [if_neg c50] at H
                    exact absurd H (by simp)
  · replace c5 := Bool.eq_false_iff.mpr c5
    subst c5
    have H1 : ((batonlaw12_live.f k).bind fun t359 => (some t359)) = some r := by rw [if_neg (show ¬ (false = true) by decide)] at H; exact H
    clear H
    have H := H1
    clear H1
    replace H := Option.bind_eq_some_iff.mp H
    obtain ⟨t359, A650, H⟩ := H
    replace H : (some t359) = some r := H
    have A65 := Aside0.mk A650
    clear A650
    obtain rfl := Option.some.inj H
    go_enter Try.func7, Try.ntmps7
    go_wp2_with (first | ((with_reducible refine gate_dst (N := 5) rfl ?_); (try (refine gate_guard (by rfl) ?_; dsimp only)); refine box_event ?hg (N := 5) ?hd (cs := #[.int .i64 a2_0, .int .i64 a2_1]) (t := 29) ?hr ?_; (case hd => rfl); (case hg => rfl); (case hr => first | (go_simp; done) | (go_simp; rfl)); intro gb357 hg w66 hbox hb; have n0_ := Aside0.mk (below_step (by repeat (first | (with_reducible first | exact HB.out | apply below_alloc | apply pw_below_drewN | apply below_drew1) | exact HB.out)) hb); have n1_ := Aside0.mk (hbox); have n2_ := Aside0.mk ((by rw [hg]; exact (below_size (by repeat (first | (with_reducible first | exact HB.out | apply below_alloc | apply pw_below_drewN | apply below_drew1) | exact HB.out))) : w.heap.size ≤ gb357)); have n3_ := Aside0.mk ((by rw [hg]; exact (below_size (by repeat (first | (with_reducible first | exact HB.out | apply below_alloc | apply pw_below_drewN | apply below_drew1) | exact HB.out))) : w.heap.size ≤ gb357)); clear HB; have HB := n0_; have BK357 := n1_; have GW357 := n2_; have GE357 := n3_; clear n0_ n1_ n2_ n3_; clear hb hbox hg) | (go_at_call 9; (refine (batonlaw12_few.calls _ _ l0 _ _ ([] : List (S31)) false _ ?side1 ?side2 ?side3 ?side4 A4.out).mono ?_); (case side1 => repeat (first | exact (Kd.C_below HR0.out HB.out) | (with_reducible refine Kd.C_alloc ?_ _) | (with_reducible refine Kd.C_drewN ?_ _) | (with_reducible refine Kd.C_drew ?_))); (case side2 => exact HC0.out); (case side3 => exact Kd.C_nil _ _); (case side4 => exact Nat.le_refl _); rintro e w' ⟨rfl, ⟨nd, rfl⟩⟩; (try first | exact ⟨rfl, _, World.drewN_drewN _ _ _⟩ | exact ⟨rfl, _, Eq.trans (World.drewN_drewN _ _ _) (congrArg (World.drewN _) (Nat.add_assoc _ _ _))⟩)) | (go_at_call 10; (with_reducible refine (batonlaw12_live.calls k  t359 _ A65.out).mono ?_); rintro e w67 ⟨rfl, hb⟩; have n0_ := Aside0.mk (blk_below (g := gb357) (o := .cells #[.int .i64 a2_0, .int .i64 a2_1] 29 (0, 0)) (by (with_reducible repeat (first | refine blk_drewN ?_ _ | refine blk_drew ?_ | refine blk_alloc ?_ _)); exact BK357.out) hb); have n1_ := Aside0.mk (below_step (by repeat (first | (with_reducible first | exact HB.out | apply below_alloc | apply pw_below_drewN | apply below_drew1 | refine below_set ?_ GE357.out) | exact HB.out)) hb); clear BK357; clear HB; have BK357 := n0_; have HB := n1_; clear n0_ n1_; (try clear hb); (try clear hb2); (try clear hk); (try clear hi)))
    repeat (go_quiet (first | ((with_reducible refine gate_dst (N := 5) rfl ?_); (try (refine gate_guard (by rfl) ?_; dsimp only)); refine box_event ?hg (N := 5) ?hd (cs := #[.int .i64 a2_0, .int .i64 a2_1]) (t := 29) ?hr ?_; (case hd => rfl); (case hg => rfl); (case hr => first | (go_simp; done) | (go_simp; rfl)); intro gb357 hg w66 hbox hb; have n0_ := Aside0.mk (below_step (by repeat (first | (with_reducible first | exact HB.out | apply below_alloc | apply pw_below_drewN | apply below_drew1) | exact HB.out)) hb); have n1_ := Aside0.mk (hbox); have n2_ := Aside0.mk ((by rw [hg]; exact (below_size (by repeat (first | (with_reducible first | exact HB.out | apply below_alloc | apply pw_below_drewN | apply below_drew1) | exact HB.out))) : w.heap.size ≤ gb357)); have n3_ := Aside0.mk ((by rw [hg]; exact (below_size (by repeat (first | (with_reducible first | exact HB.out | apply below_alloc | apply pw_below_drewN | apply below_drew1) | exact HB.out))) : w.heap.size ≤ gb357)); clear HB; have HB := n0_; have BK357 := n1_; have GW357 := n2_; have GE357 := n3_; clear n0_ n1_ n2_ n3_; clear hb hbox hg) | (go_at_call 9; (refine (batonlaw12_few.calls _ _ l0 _ _ ([] : List (S31)) false _ ?side1 ?side2 ?side3 ?side4 A4.out).mono ?_); (case side1 => repeat (first | exact (Kd.C_below HR0.out HB.out) | (with_reducible refine Kd.C_alloc ?_ _) | (with_reducible refine Kd.C_drewN ?_ _) | (with_reducible refine Kd.C_drew ?_))); (case side2 => exact HC0.out); (case side3 => exact Kd.C_nil _ _); (case side4 => exact Nat.le_refl _); rintro e w' ⟨rfl, ⟨nd, rfl⟩⟩; (try first | exact ⟨rfl, _, World.drewN_drewN _ _ _⟩ | exact ⟨rfl, _, Eq.trans (World.drewN_drewN _ _ _) (congrArg (World.drewN _) (Nat.add_assoc _ _ _))⟩)) | (go_at_call 10; (with_reducible refine (batonlaw12_live.calls k  t359 _ A65.out).mono ?_); rintro e w67 ⟨rfl, hb⟩; have n0_ := Aside0.mk (blk_below (g := gb357) (o := .cells #[.int .i64 a2_0, .int .i64 a2_1] 29 (0, 0)) (by (with_reducible repeat (first | refine blk_drewN ?_ _ | refine blk_drew ?_ | refine blk_alloc ?_ _)); exact BK357.out) hb); have n1_ := Aside0.mk (below_step (by repeat (first | (with_reducible first | exact HB.out | apply below_alloc | apply pw_below_drewN | apply below_drew1 | refine below_set ?_ GE357.out) | exact HB.out)) hb); clear BK357; clear HB; have BK357 := n0_; have HB := n1_; clear n0_ n1_; (try clear hb); (try clear hb2); (try clear hk); (try clear hi))); try go_wp2_with (first | ((with_reducible refine gate_dst (N := 5) rfl ?_); (try (refine gate_guard (by rfl) ?_; dsimp only)); refine box_event ?hg (N := 5) ?hd (cs := #[.int .i64 a2_0, .int .i64 a2_1]) (t := 29) ?hr ?_; (case hd => rfl); (case hg => rfl); (case hr => first | (go_simp; done) | (go_simp; rfl)); intro gb357 hg w66 hbox hb; have n0_ := Aside0.mk (below_step (by repeat (first | (with_reducible first | exact HB.out | apply below_alloc | apply pw_below_drewN | apply below_drew1) | exact HB.out)) hb); have n1_ := Aside0.mk (hbox); have n2_ := Aside0.mk ((by rw [hg]; exact (below_size (by repeat (first | (with_reducible first | exact HB.out | apply below_alloc | apply pw_below_drewN | apply below_drew1) | exact HB.out))) : w.heap.size ≤ gb357)); have n3_ := Aside0.mk ((by rw [hg]; exact (below_size (by repeat (first | (with_reducible first | exact HB.out | apply below_alloc | apply pw_below_drewN | apply below_drew1) | exact HB.out))) : w.heap.size ≤ gb357)); clear HB; have HB := n0_; have BK357 := n1_; have GW357 := n2_; have GE357 := n3_; clear n0_ n1_ n2_ n3_; clear hb hbox hg) | (go_at_call 9; (refine (batonlaw12_few.calls _ _ l0 _ _ ([] : List (S31)) false _ ?side1 ?side2 ?side3 ?side4 A4.out).mono ?_); (case side1 => repeat (first | exact (Kd.C_below HR0.out HB.out) | (with_reducible refine Kd.C_alloc ?_ _) | (with_reducible refine Kd.C_drewN ?_ _) | (with_reducible refine Kd.C_drew ?_))); (case side2 => exact HC0.out); (case side3 => exact Kd.C_nil _ _); (case side4 => exact Nat.le_refl _); rintro e w' ⟨rfl, ⟨nd, rfl⟩⟩; (try first | exact ⟨rfl, _, World.drewN_drewN _ _ _⟩ | exact ⟨rfl, _, Eq.trans (World.drewN_drewN _ _ _) (congrArg (World.drewN _) (Nat.add_assoc _ _ _))⟩)) | (go_at_call 10; (with_reducible refine (batonlaw12_live.calls k  t359 _ A65.out).mono ?_); rintro e w67 ⟨rfl, hb⟩; have n0_ := Aside0.mk (blk_below (g := gb357) (o := .cells #[.int .i64 a2_0, .int .i64 a2_1] 29 (0, 0)) (by (with_reducible repeat (first | refine blk_drewN ?_ _ | refine blk_drew ?_ | refine blk_alloc ?_ _)); exact BK357.out) hb); have n1_ := Aside0.mk (below_step (by repeat (first | (with_reducible first | exact HB.out | apply below_alloc | apply pw_below_drewN | apply below_drew1 | refine below_set ?_ GE357.out) | exact HB.out)) hb); clear BK357; clear HB; have BK357 := n0_; have HB := n1_; clear n0_ n1_; (try clear hb); (try clear hb2); (try clear hk); (try clear hi))))
    go_ret
    exact ⟨by first | rfl | (simp [errW_none, errW_some] <;> rfl) | (simp [*, errW_none, errW_some] <;> rfl), by repeat (first | (with_reducible first | exact HB.out | apply below_alloc | apply pw_below_drewN | apply below_drew1 | refine below_set ?_ GE357.out) | exact HB.out)⟩

end Go.Proofs.Ytfdfilgohcbgfaa.PM
