-- made by a program of this session (wip/tools/myprint.py over the kit's print) out of the translation; Lean checks it
import Derived.Test.YtldblgcbmhkmaaaPM0
import Derived.Test.YtldblgcbmhkmaaaPM13
namespace Go.Proofs.Ytldblgcbmhkmaaa.PM
open Go.RowKit Go.Proofs.YtldblgcbmhkmaaaW.PrintWords Go.Proofs.YtldblgcbmhkmaaaW.PrintLast Go.Proofs.YtldblgcbmhkmaaaW.PrintMore
attribute [local go_sem] max2_int min2_int max_two min_two max_three min_three max_four min_four   -- for this text's walks alone
attribute [local go_sem high] Go.Proofs.Ytldblgcbmhkmaaa.My.str_leq Go.Proofs.Ytldblgcbmhkmaaa.My.str_gtr Go.Proofs.Ytldblgcbmhkmaaa.My.str_geq
set_option linter.unusedVariables false
set_option linter.unusedSimpArgs false

/-! ### batonref04_Fold: function 22 -/
def batonref04_Fold.l0 : Nat → List (S26) → List (S38) → Int → Int → Option ((List (S26)))
 | 0, _, _, _, _ => none
 | k + 1, x0, x1, x2, x7 => if x7 < (x1.length : Int) then (if 0 ≤ x7 then (if ((rd_T38 x1 x7).f0) > x2 then (batonref04_Fold.l0 k x0 x1 x2 (wrap64 (x7 + 1))) else (if (rd_T38 x1 x7).f1 = true then ((batonref04_Take.f k x0 ((rd_T38 x1 x7).f2.f0)).bind fun t353 => (batonref04_Fold.l0 k t353 x1 x2 (wrap64 (x7 + 1)))) else ((batonref04_Lay.f k x0 ((rd_T38 x1 x7).f2.f0) ((rd_T38 x1 x7).f2.f1) ((rd_T38 x1 x7).f2.f2) ((rd_T38 x1 x7).f2.f3) ((rd_T38 x1 x7).f2.f4) ((rd_T38 x1 x7).f2.f5)).bind fun t357 => (batonref04_Fold.l0 k t357 x1 x2 (wrap64 (x7 + 1)))))) else (none)) else (some x0)
def batonref04_Fold.f (k : Nat) (l0 : List (S26)) (l1 : List (S38)) (a2 : Int) : Option ((List (S26))) := batonref04_Fold.l0 k l0 l1 a2 0
theorem batonref04_Fold.mono_l : ∀ k, (∀ y0 y1 y2 y3, LeO (batonref04_Fold.l0 k y0 y1 y2 y3) (batonref04_Fold.l0 (k + 1) y0 y1 y2 y3))
 | 0 => fun _ _ _ _ r h => by simp [batonref04_Fold.l0] at h
 | k + 1 => by
  have ih0 := batonref04_Fold.mono_l k
  ·intro y0 y1 y2 y3
   unfold batonref04_Fold.l0
   repeat' first
   | (with_reducible exact ih0 _ _ _ _)
   | (with_reducible exact batonref04_Lay.mono _ _ _ _ _ _ _ _)
   | (with_reducible exact batonref04_Take.mono _ _ _)
   | (with_reducible exact LeO.refl _)
   | (with_reducible exact LeO.none _)
   | (with_reducible refine LeO.ite ?_ ?_)
   | (with_reducible refine LeO.bind ?_ (fun _ => ?_))
   | exact ih0 _ _ _ _
   | exact batonref04_Lay.mono _ _ _ _ _ _ _ _
   | exact batonref04_Take.mono _ _ _
   | exact LeO.none _
   | refine LeO.ite ?_ ?_
   | refine LeO.bind ?_ (fun _ => ?_)
theorem batonref04_Fold.mono : ∀ a0 a1 a2 k, LeO (batonref04_Fold.f k a0 a1 a2) (batonref04_Fold.f (k + 1) a0 a1 a2) := by
 intro a0 a1 a2 k
 have ih0 := batonref04_Fold.mono_l k
 unfold batonref04_Fold.f
 repeat' first
   | (with_reducible exact ih0 _ _ _ _)
   | (with_reducible exact batonref04_Lay.mono _ _ _ _ _ _ _ _)
   | (with_reducible exact batonref04_Take.mono _ _ _)
   | (with_reducible exact LeO.refl _)
   | (with_reducible exact LeO.none _)
   | (with_reducible refine LeO.ite ?_ ?_)
   | (with_reducible refine LeO.bind ?_ (fun _ => ?_))
   | exact ih0 _ _ _ _
   | exact batonref04_Lay.mono _ _ _ _ _ _ _ _
   | exact batonref04_Take.mono _ _ _
   | exact LeO.none _
   | refine LeO.ite ?_ ?_
   | refine LeO.bind ?_ (fun _ => ?_)
set_option maxHeartbeats 8000000 in
set_option maxRecDepth 100000 in
theorem batonref04_Fold.calls (k : Nat) (P0_ : Nat → Prop) (A0 : Option Addr) (c0 : Nat) (l0 : List (S26)) (A1 : Option Addr) (c1 : Nat) (l1 : List (S38)) (a2 : Int) (r : List (S26)) (w : World) (hs0 : Kd.V k26 26 w w.heap.size (fun k_ => P0_ k_) (.slice A0 l0.length c0) l0) (hr1 : Kd.C k38 w A1 l1.length l1) (hc1 : l1.length ≤ c1) (h : batonref04_Fold.f k l0 l1 a2 = some r) :
  Calls Try.prog 22 #[.slice A0 l0.length c0, .slice A1 l1.length c1, .int .i64 a2] w fun e w' => ∃ v0_ : Value, e = .returned (v0_) ∧ Kd.V k26 26 w' w.heap.size (fun k_ => (P0_ k_ ∨ w.heap.size ≤ k_)) v0_ r ∧ Below w.heap.size w w' := by
 have hu26 := Try.underlying26
 have HO0 := Aside0.mk (show Kd.V k26 26 w w.heap.size (fun k_ => (P0_ k_ ∨ w.heap.size ≤ k_)) (.slice A0 l0.length c0) l0 from Kd.V_mono hs0 (fun k_ hk => .inl hk))
 have HR1 := Aside0.mk hr1
 have HC1 := Aside0.mk hc1
 clear hr1 hc1
 have HB := Aside0.mk (Below.refl w.heap.size w)
 have H : (batonref04_Fold.l0 k l0 l1 a2 0) = some r := h
 clear h
 have H' := Aside0.mk H
 clear H
 go_enter Try.func22, Try.ntmps22
 go_wp2
 go_loopg [0, 7] k (fun kq v0 v7 w' => ∃ (x0_1 : List (S26)) (x7_1 : Int), v7 = .int .i64 x7_1 ∧ Aside0 (batonref04_Fold.l0 kq x0_1 l1 a2 x7_1 = some r) ∧ Aside0 (kq ≤ k) ∧ Aside0 (Kd.V k26 26 w' w.heap.size (fun k_ => (P0_ k_ ∨ w.heap.size ≤ k_)) v0 x0_1) ∧ Aside0 (Below w.heap.size w w'))
 case atStart => exact ⟨(l0), (0), (by first | rfl | (simp; done) | (simp [*]; done)), H', ⟨Nat.le_refl _⟩, ⟨by (with_reducible repeat (first | apply Kd.V_alloc | apply Kd.V_drewN | apply Kd.V_drew)); exact HO0.out⟩, ⟨by repeat (first | (with_reducible first | exact HB.out | apply below_alloc | apply pw_below_drewN | apply below_drew1) | exact HB.out)⟩⟩
 case round =>
  clear H'
  try clear c1
  try clear c2
  try clear p2
  obtain ⟨x0_1, x7_1, rfl, HA, HK1, HO_0, HB⟩ := hrel
  cases gk with
  | zero => exact absurd HA.out (by simp [batonref04_Fold.l0])
  | succ k1 =>
   have H := HA.out
   clear HA
   simp only [batonref04_Fold.l0] at H
   by_cases c4 : x7_1 < (l1.length : Int)
   ·rw [if_pos c4] at H
    have c4b0 : decide (x7_1 < (l1.length : Int)) = true := decide_eq_true c4
    clear c4
    by_cases c5 : 0 ≤ x7_1
    ·rw [if_pos c5] at H
     have c5b0 : decide (0 ≤ x7_1) = true := decide_eq_true c5
     clear c5
     by_cases c6 : ((rd_T38 l1 x7_1).f0) > a2
     ·rw [if_pos c6] at H
      have c6b0 : decide (a2 < ((rd_T38 l1 x7_1).f0)) = true := decide_eq_true c6
      clear c6
      have H' := Aside0.mk H
      clear H
      have p350 : 0 ≤ (x7_1 : Int) := of_decide_eq_true (by assumption)
      have q350 : x7_1 < (l1.length : Int) := of_decide_eq_true (by assumption)
      obtain ⟨ad350, e350, hx350_0, hx350_1, hx350_2, hx350_3, hx350_4, hx350_5, hx350_6, hx350_7⟩ := at_T38 HR1.out x7_1 p350 q350
      cases e350
      replace hx350_0 := (HB.out.cell (World.block_lt_of_cell? w _ hx350_0)).trans hx350_0
      replace hx350_1 := (HB.out.cell (World.block_lt_of_cell? w _ hx350_1)).trans hx350_1
      replace hx350_2 := (HB.out.cell (World.block_lt_of_cell? w _ hx350_2)).trans hx350_2
      replace hx350_3 := (HB.out.cell (World.block_lt_of_cell? w _ hx350_3)).trans hx350_3
      replace hx350_4 := (HB.out.cell (World.block_lt_of_cell? w _ hx350_4)).trans hx350_4
      replace hx350_5 := (HB.out.cell (World.block_lt_of_cell? w _ hx350_5)).trans hx350_5
      replace hx350_6 := (HB.out.cell (World.block_lt_of_cell? w _ hx350_6)).trans hx350_6
      replace hx350_7 := (HB.out.cell (World.block_lt_of_cell? w _ hx350_7)).trans hx350_7
      replace p350 := eq_true p350
      replace q350 := eq_true q350
      go_wp2
      go_roundg k1
      case measure => have := HK1.out; omega
      case rel => exact ⟨(x0_1), (wrap64 (x7_1 + 1)), (by first | rfl | (simp; done) | (simp [*]; done)), H', ⟨by have := HK1.out; omega⟩, ⟨by (with_reducible repeat (first | apply Kd.V_alloc | apply Kd.V_drewN | apply Kd.V_drew)); exact HO_0.out⟩, ⟨by repeat (first | (with_reducible first | exact HB.out | apply below_alloc | apply pw_below_drewN | apply below_drew1) | exact HB.out)⟩⟩
     ·rw [if_neg c6] at H
      have c6b0 : decide (a2 < ((rd_T38 l1 x7_1).f0)) = false := decide_eq_false c6
      clear c6
      obtain ⟨bq7, hbq7⟩ : ∃ b_ : Bool, b_ = ((rd_T38 l1 x7_1).f1) := ⟨_, rfl⟩
      replace H : (if bq7 = true then ((batonref04_Take.f k1 x0_1 ((rd_T38 l1 x7_1).f2.f0)).bind fun t353 => (batonref04_Fold.l0 k1 t353 l1 a2 (wrap64 (x7_1 + 1)))) else ((batonref04_Lay.f k1 x0_1 ((rd_T38 l1 x7_1).f2.f0) ((rd_T38 l1 x7_1).f2.f1) ((rd_T38 l1 x7_1).f2.f2) ((rd_T38 l1 x7_1).f2.f3) ((rd_T38 l1 x7_1).f2.f4) ((rd_T38 l1 x7_1).f2.f5)).bind fun t357 => (batonref04_Fold.l0 k1 t357 l1 a2 (wrap64 (x7_1 + 1))))) = some r := by rw [← hbq7] at H; exact H
      have Nbq7 := Aside0.mk hbq7
      clear hbq7
      by_cases c8 : bq7 = true
      ·subst c8
       have H1 := H
       rw [if_pos rfl] at H1
       clear H
       have H := H1
       clear H1
       replace H := Option.bind_eq_some_iff.mp H
       obtain ⟨t353, A90, H⟩ := H
       replace H : (batonref04_Fold.l0 k1 t353 l1 a2 (wrap64 (x7_1 + 1))) = some r := H
       have A9 := Aside0.mk A90
       clear A90
       have H' := Aside0.mk H
       clear H
       have p350 : 0 ≤ (x7_1 : Int) := of_decide_eq_true (by assumption)
       have q350 : x7_1 < (l1.length : Int) := of_decide_eq_true (by assumption)
       obtain ⟨ad350, e350, hx350_0, hx350_1, hx350_2, hx350_3, hx350_4, hx350_5, hx350_6, hx350_7⟩ := at_T38 HR1.out x7_1 p350 q350
       (try rw [← Nbq7.out] at hx350_1)
       cases e350
       replace hx350_0 := (HB.out.cell (World.block_lt_of_cell? w _ hx350_0)).trans hx350_0
       replace hx350_1 := (HB.out.cell (World.block_lt_of_cell? w _ hx350_1)).trans hx350_1
       replace hx350_2 := (HB.out.cell (World.block_lt_of_cell? w _ hx350_2)).trans hx350_2
       replace hx350_3 := (HB.out.cell (World.block_lt_of_cell? w _ hx350_3)).trans hx350_3
       replace hx350_4 := (HB.out.cell (World.block_lt_of_cell? w _ hx350_4)).trans hx350_4
       replace hx350_5 := (HB.out.cell (World.block_lt_of_cell? w _ hx350_5)).trans hx350_5
       replace hx350_6 := (HB.out.cell (World.block_lt_of_cell? w _ hx350_6)).trans hx350_6
       replace hx350_7 := (HB.out.cell (World.block_lt_of_cell? w _ hx350_7)).trans hx350_7
       replace p350 := eq_true p350
       replace q350 := eq_true q350
       have p351 : 0 ≤ (x7_1 : Int) := of_decide_eq_true (by assumption)
       have q351 : x7_1 < (l1.length : Int) := of_decide_eq_true (by assumption)
       obtain ⟨ad351, e351, hx351_0, hx351_1, hx351_2, hx351_3, hx351_4, hx351_5, hx351_6, hx351_7⟩ := at_T38 HR1.out x7_1 p351 q351
       (try rw [← Nbq7.out] at hx351_1)
       obtain rfl : ad350 = ad351 := (by injection e351)
       replace hx351_0 := (HB.out.cell (World.block_lt_of_cell? w _ hx351_0)).trans hx351_0
       replace hx351_1 := (HB.out.cell (World.block_lt_of_cell? w _ hx351_1)).trans hx351_1
       replace hx351_2 := (HB.out.cell (World.block_lt_of_cell? w _ hx351_2)).trans hx351_2
       replace hx351_3 := (HB.out.cell (World.block_lt_of_cell? w _ hx351_3)).trans hx351_3
       replace hx351_4 := (HB.out.cell (World.block_lt_of_cell? w _ hx351_4)).trans hx351_4
       replace hx351_5 := (HB.out.cell (World.block_lt_of_cell? w _ hx351_5)).trans hx351_5
       replace hx351_6 := (HB.out.cell (World.block_lt_of_cell? w _ hx351_6)).trans hx351_6
       replace hx351_7 := (HB.out.cell (World.block_lt_of_cell? w _ hx351_7)).trans hx351_7
       replace p351 := eq_true p351
       replace q351 := eq_true q351
       have p352 : 0 ≤ (x7_1 : Int) := of_decide_eq_true (by assumption)
       have q352 : x7_1 < (l1.length : Int) := of_decide_eq_true (by assumption)
       obtain ⟨ad352, e352, hx352_0, hx352_1, hx352_2, hx352_3, hx352_4, hx352_5, hx352_6, hx352_7⟩ := at_T38 HR1.out x7_1 p352 q352
       (try rw [← Nbq7.out] at hx352_1)
       obtain rfl : ad350 = ad352 := (by injection e352)
       replace hx352_0 := (HB.out.cell (World.block_lt_of_cell? w _ hx352_0)).trans hx352_0
       replace hx352_1 := (HB.out.cell (World.block_lt_of_cell? w _ hx352_1)).trans hx352_1
       replace hx352_2 := (HB.out.cell (World.block_lt_of_cell? w _ hx352_2)).trans hx352_2
       replace hx352_3 := (HB.out.cell (World.block_lt_of_cell? w _ hx352_3)).trans hx352_3
       replace hx352_4 := (HB.out.cell (World.block_lt_of_cell? w _ hx352_4)).trans hx352_4
       replace hx352_5 := (HB.out.cell (World.block_lt_of_cell? w _ hx352_5)).trans hx352_5
       replace hx352_6 := (HB.out.cell (World.block_lt_of_cell? w _ hx352_6)).trans hx352_6
       replace hx352_7 := (HB.out.cell (World.block_lt_of_cell? w _ hx352_7)).trans hx352_7
       replace p352 := eq_true p352
       replace q352 := eq_true q352
       obtain ⟨Ao10, co10, eo10⟩ := Kd.V_slice HO_0.out
       subst eo10
       go_wp2_with (first | ((with_reducible refine gate_callee (f := 17) rfl ?_); refine goesL_ (some 33) rfl rfl Try.func17 (by kernel_rfl) rfl #[.slice Ao10 x0_1.length co10, .string ((rd_T38 l1 x7_1).f2.f0)] rfl (by (try simp only [List.map_toArray, List.map_cons, List.map_nil]); first | done | rfl | (simp only [List.length_drop, List.length_take]; rfl)) ?_; (with_reducible refine (batonref04_Take.calls k1 _ _ x0_1 ((rd_T38 l1 x7_1).f2.f0) t353 _ ?side1 ?side2 A9.out).mono ?_); (case side1 => repeat (first | exact (Kd.V_reads' HO_0.out).2.2 | (with_reducible refine Kd.C_alloc ?_ _) | (with_reducible refine Kd.C_drewN ?_ _) | (with_reducible refine Kd.C_drew ?_))); (case side2 => exact (Kd.V_reads' HO_0.out).2.1); rintro e w11 ⟨v354, rfl, ho0, hb⟩; refine ⟨_, rfl, ?_⟩; have n0_ := Aside0.mk (Kd.V_elder' (by (with_reducible repeat (first | apply Kd.V_alloc | apply Kd.V_drewN | apply Kd.V_drew)); exact HO_0.out) (Kd.R_base ho0) hb); have n1_ := Aside0.mk (Kd.R_lower (Kd.R_newM (M := fun k_ => (w.heap.size ≤ k_)) ho0 (below_size (by repeat (first | (with_reducible first | exact HB.out | apply below_alloc | apply pw_below_drewN | apply below_drew1) | exact HB.out))) (fun k_ h_ => h_)) (below_size (by repeat (first | (with_reducible first | exact HB.out | apply below_alloc | apply pw_below_drewN | apply below_drew1) | exact HB.out)))); have n2_ := Aside0.mk (below_step (by repeat (first | (with_reducible first | exact HB.out | apply below_alloc | apply pw_below_drewN | apply below_drew1) | exact HB.out)) hb); clear HO_0; clear HB; have HO_0 := n0_; have HO355 := n1_; have HB := n2_; clear n0_ n1_ n2_; (try clear ho0)))
       go_roundg k1
       case measure => have := HK1.out; omega
       case rel => exact ⟨(t353), (wrap64 (x7_1 + 1)), (by first | rfl | (simp; done) | (simp [*]; done)), H', ⟨by have := HK1.out; omega⟩, ⟨Kd.V_mono (Kd.R_V (by (with_reducible repeat (first | apply Kd.R_alloc | apply Kd.R_drewN | apply Kd.R_drew)); exact Kd.R_mono HO355.out (fun _ hk => hk.1))) (fun k_ hk => by first | exact ⟨(.inr (hk.1)), hk.2⟩ | exact (.inr (hk)))⟩, ⟨by repeat (first | (with_reducible first | exact HB.out | apply below_alloc | apply pw_below_drewN | apply below_drew1) | exact HB.out)⟩⟩
      ·replace c8 := Bool.eq_false_iff.mpr c8
       subst c8
       have H1 := H
       rw [if_neg (show ¬ (false = true) by decide)] at H1
       clear H
       have H := H1
       clear H1
       replace H := Option.bind_eq_some_iff.mp H
       obtain ⟨t357, A120, H⟩ := H
       replace H : (batonref04_Fold.l0 k1 t357 l1 a2 (wrap64 (x7_1 + 1))) = some r := H
       have A12 := Aside0.mk A120
       clear A120
       have H' := Aside0.mk H
       clear H
       have p350 : 0 ≤ (x7_1 : Int) := of_decide_eq_true (by assumption)
       have q350 : x7_1 < (l1.length : Int) := of_decide_eq_true (by assumption)
       obtain ⟨ad350, e350, hx350_0, hx350_1, hx350_2, hx350_3, hx350_4, hx350_5, hx350_6, hx350_7⟩ := at_T38 HR1.out x7_1 p350 q350
       (try rw [← Nbq7.out] at hx350_1)
       cases e350
       replace hx350_0 := (HB.out.cell (World.block_lt_of_cell? w _ hx350_0)).trans hx350_0
       replace hx350_1 := (HB.out.cell (World.block_lt_of_cell? w _ hx350_1)).trans hx350_1
       replace hx350_2 := (HB.out.cell (World.block_lt_of_cell? w _ hx350_2)).trans hx350_2
       replace hx350_3 := (HB.out.cell (World.block_lt_of_cell? w _ hx350_3)).trans hx350_3
       replace hx350_4 := (HB.out.cell (World.block_lt_of_cell? w _ hx350_4)).trans hx350_4
       replace hx350_5 := (HB.out.cell (World.block_lt_of_cell? w _ hx350_5)).trans hx350_5
       replace hx350_6 := (HB.out.cell (World.block_lt_of_cell? w _ hx350_6)).trans hx350_6
       replace hx350_7 := (HB.out.cell (World.block_lt_of_cell? w _ hx350_7)).trans hx350_7
       replace p350 := eq_true p350
       replace q350 := eq_true q350
       have p351 : 0 ≤ (x7_1 : Int) := of_decide_eq_true (by assumption)
       have q351 : x7_1 < (l1.length : Int) := of_decide_eq_true (by assumption)
       obtain ⟨ad351, e351, hx351_0, hx351_1, hx351_2, hx351_3, hx351_4, hx351_5, hx351_6, hx351_7⟩ := at_T38 HR1.out x7_1 p351 q351
       (try rw [← Nbq7.out] at hx351_1)
       obtain rfl : ad350 = ad351 := (by injection e351)
       replace hx351_0 := (HB.out.cell (World.block_lt_of_cell? w _ hx351_0)).trans hx351_0
       replace hx351_1 := (HB.out.cell (World.block_lt_of_cell? w _ hx351_1)).trans hx351_1
       replace hx351_2 := (HB.out.cell (World.block_lt_of_cell? w _ hx351_2)).trans hx351_2
       replace hx351_3 := (HB.out.cell (World.block_lt_of_cell? w _ hx351_3)).trans hx351_3
       replace hx351_4 := (HB.out.cell (World.block_lt_of_cell? w _ hx351_4)).trans hx351_4
       replace hx351_5 := (HB.out.cell (World.block_lt_of_cell? w _ hx351_5)).trans hx351_5
       replace hx351_6 := (HB.out.cell (World.block_lt_of_cell? w _ hx351_6)).trans hx351_6
       replace hx351_7 := (HB.out.cell (World.block_lt_of_cell? w _ hx351_7)).trans hx351_7
       replace p351 := eq_true p351
       replace q351 := eq_true q351
       have p356 : 0 ≤ (x7_1 : Int) := of_decide_eq_true (by assumption)
       have q356 : x7_1 < (l1.length : Int) := of_decide_eq_true (by assumption)
       obtain ⟨ad356, e356, hx356_0, hx356_1, hx356_2, hx356_3, hx356_4, hx356_5, hx356_6, hx356_7⟩ := at_T38 HR1.out x7_1 p356 q356
       (try rw [← Nbq7.out] at hx356_1)
       obtain rfl : ad350 = ad356 := (by injection e356)
       replace hx356_0 := (HB.out.cell (World.block_lt_of_cell? w _ hx356_0)).trans hx356_0
       replace hx356_1 := (HB.out.cell (World.block_lt_of_cell? w _ hx356_1)).trans hx356_1
       replace hx356_2 := (HB.out.cell (World.block_lt_of_cell? w _ hx356_2)).trans hx356_2
       replace hx356_3 := (HB.out.cell (World.block_lt_of_cell? w _ hx356_3)).trans hx356_3
       replace hx356_4 := (HB.out.cell (World.block_lt_of_cell? w _ hx356_4)).trans hx356_4
       replace hx356_5 := (HB.out.cell (World.block_lt_of_cell? w _ hx356_5)).trans hx356_5
       replace hx356_6 := (HB.out.cell (World.block_lt_of_cell? w _ hx356_6)).trans hx356_6
       replace hx356_7 := (HB.out.cell (World.block_lt_of_cell? w _ hx356_7)).trans hx356_7
       replace p356 := eq_true p356
       replace q356 := eq_true q356
       obtain ⟨Ao13, co13, eo13⟩ := Kd.V_slice HO_0.out
       subst eo13
       go_wp2_with (first | ((with_reducible refine gate_callee (f := 24) rfl ?_); refine goesL_ (some 40) rfl rfl Try.func24 (by kernel_rfl) rfl #[.slice Ao13 x0_1.length co13, .agg #[.string ((rd_T38 l1 x7_1).f2.f0), .string ((rd_T38 l1 x7_1).f2.f1), .int .i64 ((rd_T38 l1 x7_1).f2.f2), .int .i64 ((rd_T38 l1 x7_1).f2.f3), .int .i64 ((rd_T38 l1 x7_1).f2.f4), .int .i64 ((rd_T38 l1 x7_1).f2.f5)]] rfl (by (try simp only [List.map_toArray, List.map_cons, List.map_nil]); first | done | rfl | (simp only [List.length_drop, List.length_take]; rfl)) ?_; (with_reducible refine (batonref04_Lay.calls k1 _ _ x0_1 ((rd_T38 l1 x7_1).f2.f0) ((rd_T38 l1 x7_1).f2.f1) ((rd_T38 l1 x7_1).f2.f2) ((rd_T38 l1 x7_1).f2.f3) ((rd_T38 l1 x7_1).f2.f4) ((rd_T38 l1 x7_1).f2.f5) t357 _ ?side1 ?side2 A12.out).mono ?_); (case side1 => repeat (first | exact (Kd.V_reads' HO_0.out).2.2 | (with_reducible refine Kd.C_alloc ?_ _) | (with_reducible refine Kd.C_drewN ?_ _) | (with_reducible refine Kd.C_drew ?_))); (case side2 => exact (Kd.V_reads' HO_0.out).2.1); rintro e w14 ⟨v358, rfl, ho0, hb⟩; refine ⟨_, rfl, ?_⟩; have n0_ := Aside0.mk (Kd.V_elder' (by (with_reducible repeat (first | apply Kd.V_alloc | apply Kd.V_drewN | apply Kd.V_drew)); exact HO_0.out) (Kd.R_base ho0) hb); have n1_ := Aside0.mk (Kd.R_lower (Kd.R_newM (M := fun k_ => (w.heap.size ≤ k_)) ho0 (below_size (by repeat (first | (with_reducible first | exact HB.out | apply below_alloc | apply pw_below_drewN | apply below_drew1) | exact HB.out))) (fun k_ h_ => h_)) (below_size (by repeat (first | (with_reducible first | exact HB.out | apply below_alloc | apply pw_below_drewN | apply below_drew1) | exact HB.out)))); have n2_ := Aside0.mk (below_step (by repeat (first | (with_reducible first | exact HB.out | apply below_alloc | apply pw_below_drewN | apply below_drew1) | exact HB.out)) hb); clear HO_0; clear HB; have HO_0 := n0_; have HO359 := n1_; have HB := n2_; clear n0_ n1_ n2_; (try clear ho0)))
       go_roundg k1
       case measure => have := HK1.out; omega
       case rel => exact ⟨(t357), (wrap64 (x7_1 + 1)), (by first | rfl | (simp; done) | (simp [*]; done)), H', ⟨by have := HK1.out; omega⟩, ⟨Kd.V_mono (Kd.R_V (by (with_reducible repeat (first | apply Kd.R_alloc | apply Kd.R_drewN | apply Kd.R_drew)); exact Kd.R_mono HO359.out (fun _ hk => hk.1))) (fun k_ hk => by first | exact ⟨(.inr (hk.1)), hk.2⟩ | exact (.inr (hk)))⟩, ⟨by repeat (first | (with_reducible first | exact HB.out | apply below_alloc | apply pw_below_drewN | apply below_drew1) | exact HB.out)⟩⟩
    ·rw [if_neg c5] at H
     exact absurd H (by simp)
   ·rw [if_neg c4] at H
    have c4b0 : decide (x7_1 < (l1.length : Int)) = false := decide_eq_false c4
    clear c4
    obtain rfl := Option.some.inj H
    go_wp2
    go_ret
    exact ⟨_, by first | rfl | (simp [*] <;> rfl), by (with_reducible repeat (first | apply Kd.V_alloc | apply Kd.V_drewN | apply Kd.V_drew)); exact HO_0.out, by repeat (first | (with_reducible first | exact HB.out | apply below_alloc | apply pw_below_drewN | apply below_drew1) | exact HB.out)⟩

end Go.Proofs.Ytldblgcbmhkmaaa.PM
