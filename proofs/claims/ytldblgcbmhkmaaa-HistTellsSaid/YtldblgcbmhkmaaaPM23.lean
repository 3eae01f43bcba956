-- made by a program of this session (wip/tools/myprint.py over the kit's print) out of the translation; Lean checks it
import Derived.Test.YtldblgcbmhkmaaaPM0
import Derived.Test.YtldblgcbmhkmaaaPM1
import Derived.Test.YtldblgcbmhkmaaaPM2
import Derived.Test.YtldblgcbmhkmaaaPM4
import Derived.Test.YtldblgcbmhkmaaaPM6
import Derived.Test.YtldblgcbmhkmaaaPM10
import Derived.Test.YtldblgcbmhkmaaaPM12
import Derived.Test.YtldblgcbmhkmaaaPM13
import Derived.Test.YtldblgcbmhkmaaaPM21
import Derived.Test.YtldblgcbmhkmaaaPM22
namespace Go.Proofs.Ytldblgcbmhkmaaa.PM
open Go.RowKit Go.Proofs.YtldblgcbmhkmaaaW.PrintWords Go.Proofs.YtldblgcbmhkmaaaW.PrintLast Go.Proofs.YtldblgcbmhkmaaaW.PrintMore
attribute [local go_sem] max2_int min2_int max_two min_two max_three min_three max_four min_four   -- for this text's walks alone
attribute [local go_sem high] Go.Proofs.Ytldblgcbmhkmaaa.My.str_leq Go.Proofs.Ytldblgcbmhkmaaa.My.str_gtr Go.Proofs.Ytldblgcbmhkmaaa.My.str_geq
set_option linter.unusedVariables false
set_option linter.unusedSimpArgs false

attribute [local go_sem high] eqA26
/-! ### batonref04_From: function 19 -/
def batonref04_From.l0 : Nat → List (S26) → ByteArray → List (S26) → Int → Option ((List (S26)))
 | 0, _, _, _, _ => none
 | k + 1, x0, x1, x5, x6 => if x6 < (x0.length : Int) then (if 0 ≤ x6 then (if (((rd_T26 x0 x6).f0).size : Int) ≥ (x1.size : Int) then (if 0 ≤ (x1.size : Int) then (if (x1.size : Int) ≤ (((rd_T26 x0 x6).f0).size : Int) then (if (((rd_T26 x0 x6).f0).extract 0 ((x1.size : Int) : Int).toNat).toList = x1.toList then (if x5.length < 2199023255552 then (batonref04_From.l0 k x0 x1 (x5 ++ [(⟨(rd_T26 x0 x6).f0, (rd_T26 x0 x6).f1, (rd_T26 x0 x6).f2, (rd_T26 x0 x6).f3, (rd_T26 x0 x6).f4, (rd_T26 x0 x6).f5⟩ : S26)]) (wrap64 (x6 + 1))) else (none)) else (batonref04_From.l0 k x0 x1 x5 (wrap64 (x6 + 1)))) else (none)) else (none)) else (batonref04_From.l0 k x0 x1 x5 (wrap64 (x6 + 1)))) else (none)) else (some x5)
def batonref04_From.f (k : Nat) (l0 : List (S26)) (a1 : ByteArray) : Option ((List (S26))) := batonref04_From.l0 k l0 a1 ([] : List (S26)) 0
theorem batonref04_From.mono_l : ∀ k, (∀ y0 y1 y2 y3, LeO (batonref04_From.l0 k y0 y1 y2 y3) (batonref04_From.l0 (k + 1) y0 y1 y2 y3))
 | 0 => fun _ _ _ _ r h => by simp [batonref04_From.l0] at h
 | k + 1 => by
  have ih0 := batonref04_From.mono_l k
  ·intro y0 y1 y2 y3
   unfold batonref04_From.l0
   repeat' first
   | (with_reducible exact ih0 _ _ _ _)
   | (with_reducible exact LeO.refl _)
   | (with_reducible exact LeO.none _)
   | (with_reducible refine LeO.ite ?_ ?_)
   | (with_reducible refine LeO.bind ?_ (fun _ => ?_))
   | exact ih0 _ _ _ _
   | exact LeO.none _
   | refine LeO.ite ?_ ?_
   | refine LeO.bind ?_ (fun _ => ?_)
theorem batonref04_From.mono : ∀ a0 a1 k, LeO (batonref04_From.f k a0 a1) (batonref04_From.f (k + 1) a0 a1) := by
 intro a0 a1 k
 have ih0 := batonref04_From.mono_l k
 unfold batonref04_From.f
 repeat' first
   | (with_reducible exact ih0 _ _ _ _)
   | (with_reducible exact LeO.refl _)
   | (with_reducible exact LeO.none _)
   | (with_reducible refine LeO.ite ?_ ?_)
   | (with_reducible refine LeO.bind ?_ (fun _ => ?_))
   | exact ih0 _ _ _ _
   | exact LeO.none _
   | refine LeO.ite ?_ ?_
   | refine LeO.bind ?_ (fun _ => ?_)
set_option maxHeartbeats 8000000 in
set_option maxRecDepth 100000 in
theorem batonref04_From.calls (k : Nat) (A0 : Option Addr) (c0 : Nat) (l0 : List (S26)) (a1 : ByteArray) (r : List (S26)) (w : World) (hr0 : Kd.C k26 w A0 l0.length l0) (hc0 : l0.length ≤ c0) (h : batonref04_From.f k l0 a1 = some r) :
  Calls Try.prog 19 #[.slice A0 l0.length c0, .string a1] w fun e w' => ∃ v0_ : Value, e = .returned (v0_) ∧ Kd.R k26 26 w' w.heap.size (fun _ => True) v0_ r ∧ Below w.heap.size w w' := by
 have hu26 := Try.underlying26
 have HR0 := Aside0.mk hr0
 have HC0 := Aside0.mk hc0
 clear hr0 hc0
 have HB := Aside0.mk (Below.refl w.heap.size w)
 have H : (batonref04_From.l0 k l0 a1 ([] : List (S26)) 0) = some r := h
 clear h
 have H' := Aside0.mk H
 clear H
 go_enter Try.func19, Try.ntmps19
 go_wp2
 go_loopg [5, 6] k (fun kq v5 v6 w' => ∃ (x5_1 : List (S26)) (x6_1 : Int), v6 = .int .i64 x6_1 ∧ Aside0 (batonref04_From.l0 kq l0 a1 x5_1 x6_1 = some r) ∧ Aside0 (kq ≤ k) ∧ Aside0 (Kd.R k26 26 w' w.heap.size (fun _ => True) v5 x5_1) ∧ Aside0 (Below w.heap.size w w'))
 case atStart => exact ⟨(([] : List (S26))), (0), (by first | rfl | (simp; done) | (simp [*]; done)), H', ⟨Nat.le_refl _⟩, ⟨by first | exact Kd.R_nil _ _ _ _ _ | exact Kd.N_nil _ _ _ _ _ | exact Kd.V_nil _ _ _ _ _ | exact Kd.Q_nil _ _ _ _ _ | exact Kd.S_nil _ _ _ _ _⟩, ⟨by repeat (first | (with_reducible first | exact HB.out | apply below_alloc | apply pw_below_drewN | apply below_drew1) | exact HB.out)⟩⟩
 case round =>
  clear H'
  try clear c1
  try clear p2
  obtain ⟨x5_1, x6_1, rfl, HA, HK1, HO_5, HB⟩ := hrel
  cases gk with
  | zero => exact absurd HA.out (by simp [batonref04_From.l0])
  | succ k1 =>
   have H := HA.out
   clear HA
   simp only [batonref04_From.l0] at H
   by_cases c3 : x6_1 < (l0.length : Int)
   ·rw [if_pos c3] at H
    have c3b0 : decide (x6_1 < (l0.length : Int)) = true := decide_eq_true c3
    clear c3
    by_cases c4 : 0 ≤ x6_1
    ·rw [if_pos c4] at H
     have c4b0 : decide (0 ≤ x6_1) = true := decide_eq_true c4
     clear c4
     by_cases c5 : (((rd_T26 l0 x6_1).f0).size : Int) ≥ (a1.size : Int)
     ·rw [if_pos c5] at H
      have c5b0 : decide ((a1.size : Int) ≤ (((rd_T26 l0 x6_1).f0).size : Int)) = true := decide_eq_true c5
      have c5b1 : decide (a1.size ≤ ((rd_T26 l0 x6_1).f0).size) = true := decide_eq_true (Int.ofNat_le.mp c5)
      clear c5
      by_cases c6 : 0 ≤ (a1.size : Int)
      ·rw [if_pos c6] at H
       have c6b0 := eq_true c6
       have c6b1 : decide (0 ≤ (a1.size : Int)) = true := decide_eq_true c6
       clear c6
       by_cases c7 : (a1.size : Int) ≤ (((rd_T26 l0 x6_1).f0).size : Int)
       ·rw [if_pos c7] at H
        have c7b0 := eq_true c7
        have c7b1 : decide ((a1.size : Int) ≤ (((rd_T26 l0 x6_1).f0).size : Int)) = true := decide_eq_true c7
        clear c7
        by_cases c8 : (((rd_T26 l0 x6_1).f0).extract 0 ((a1.size : Int) : Int).toNat).toList = a1.toList
        ·rw [if_pos c8] at H
         have c8b0 : ((((rd_T26 l0 x6_1).f0).extract 0 ((a1.size : Int) : Int).toNat).toList == a1.toList) = true := beq_iff_eq.mpr c8
         try (have c8b5 := c8b0; simp only [Int.toNat_natCast] at c8b5)
         have c8b1 : ((((rd_T26 l0 x6_1).f0).extract 0 ((a1.size : Int) : Int).toNat).toList != a1.toList) = false := bne_eq_false_iff_eq.mpr c8
         try (have c8b6 := c8b1; simp only [Int.toNat_natCast] at c8b6)
         clear c8
         by_cases c9 : x5_1.length < 2199023255552
         ·rw [if_pos c9] at H
          have LMc9 := Aside0.mk c9
          clear c9
          obtain ⟨y565, hy565⟩ : ∃ y_ : List (S26), y_ = (x5_1 ++ [(⟨(rd_T26 l0 x6_1).f0, (rd_T26 l0 x6_1).f1, (rd_T26 l0 x6_1).f2, (rd_T26 l0 x6_1).f3, (rd_T26 l0 x6_1).f4, (rd_T26 l0 x6_1).f5⟩ : S26)]) := ⟨_, rfl⟩
          replace H : (batonref04_From.l0 k1 l0 a1 y565 (wrap64 (x6_1 + 1))) = some r := by first | (rw [hy565]; with_reducible exact H) | (have H2_ := (Option.bind_some _ _).symm.trans H; rw [hy565]; with_reducible exact H2_) | (have H2_ := (Option.bind_some _ _).symm.trans H; with_reducible exact H2_) | with_reducible exact H | (rw [hy565]; exact H) | exact H
          have Ny565 := Aside0.mk hy565
          clear hy565
          have H' := Aside0.mk H
          clear H
          have p562 : 0 ≤ (x6_1 : Int) := of_decide_eq_true (by assumption)
          have q562 : x6_1 < (l0.length : Int) := of_decide_eq_true (by assumption)
          obtain ⟨ad562, e562, hx562_0, hx562_1, hx562_2, hx562_3, hx562_4, hx562_5⟩ := at_T26 HR0.out x6_1 p562 q562
          cases e562
          replace hx562_0 := (HB.out.cell (World.block_lt_of_cell? w _ hx562_0)).trans hx562_0
          replace hx562_1 := (HB.out.cell (World.block_lt_of_cell? w _ hx562_1)).trans hx562_1
          replace hx562_2 := (HB.out.cell (World.block_lt_of_cell? w _ hx562_2)).trans hx562_2
          replace hx562_3 := (HB.out.cell (World.block_lt_of_cell? w _ hx562_3)).trans hx562_3
          replace hx562_4 := (HB.out.cell (World.block_lt_of_cell? w _ hx562_4)).trans hx562_4
          replace hx562_5 := (HB.out.cell (World.block_lt_of_cell? w _ hx562_5)).trans hx562_5
          replace p562 := eq_true p562
          replace q562 := eq_true q562
          have p563 : 0 ≤ (x6_1 : Int) := of_decide_eq_true (by assumption)
          have q563 : x6_1 < (l0.length : Int) := of_decide_eq_true (by assumption)
          obtain ⟨ad563, e563, hx563_0, hx563_1, hx563_2, hx563_3, hx563_4, hx563_5⟩ := at_T26 HR0.out x6_1 p563 q563
          obtain rfl : ad562 = ad563 := (by injection e563)
          replace hx563_0 := (HB.out.cell (World.block_lt_of_cell? w _ hx563_0)).trans hx563_0
          replace hx563_1 := (HB.out.cell (World.block_lt_of_cell? w _ hx563_1)).trans hx563_1
          replace hx563_2 := (HB.out.cell (World.block_lt_of_cell? w _ hx563_2)).trans hx563_2
          replace hx563_3 := (HB.out.cell (World.block_lt_of_cell? w _ hx563_3)).trans hx563_3
          replace hx563_4 := (HB.out.cell (World.block_lt_of_cell? w _ hx563_4)).trans hx563_4
          replace hx563_5 := (HB.out.cell (World.block_lt_of_cell? w _ hx563_5)).trans hx563_5
          replace p563 := eq_true p563
          replace q563 := eq_true q563
          have p564 : 0 ≤ (x6_1 : Int) := of_decide_eq_true (by assumption)
          have q564 : x6_1 < (l0.length : Int) := of_decide_eq_true (by assumption)
          obtain ⟨ad564, e564, hx564_0, hx564_1, hx564_2, hx564_3, hx564_4, hx564_5⟩ := at_T26 HR0.out x6_1 p564 q564
          obtain rfl : ad562 = ad564 := (by injection e564)
          replace hx564_0 := (HB.out.cell (World.block_lt_of_cell? w _ hx564_0)).trans hx564_0
          replace hx564_1 := (HB.out.cell (World.block_lt_of_cell? w _ hx564_1)).trans hx564_1
          replace hx564_2 := (HB.out.cell (World.block_lt_of_cell? w _ hx564_2)).trans hx564_2
          replace hx564_3 := (HB.out.cell (World.block_lt_of_cell? w _ hx564_3)).trans hx564_3
          replace hx564_4 := (HB.out.cell (World.block_lt_of_cell? w _ hx564_4)).trans hx564_4
          replace hx564_5 := (HB.out.cell (World.block_lt_of_cell? w _ hx564_5)).trans hx564_5
          replace p564 := eq_true p564
          replace q564 := eq_true q564
          go_wp2_with (first | ((with_reducible refine gate_builtin (b := .append) (xs := #[.tmp 34, .tmp 39]) rfl ?_); (try (refine gate_guard (by rfl) ?_; dsimp only)); at_builtin; refine Kd.R_append k26 (w0 := w) w.heap.size rfl (.tmp 34) (.tmp 39) 22 26 (.agg #[(.string ⟨#[]⟩), (.string ⟨#[]⟩), (.int .i64 0), (.int .i64 0), (.int .i64 0), (.int .i64 0)]) 64 rfl Try.underlying22 info26 rfl (by decide) (by omega) u5 x5_1 (⟨(rd_T26 l0 x6_1).f0, (rd_T26 l0 x6_1).f1, (rd_T26 l0 x6_1).f2, (rd_T26 l0 x6_1).f3, (rd_T26 l0 x6_1).f4, (rd_T26 l0 x6_1).f5⟩ : S26) [.string ((rd_T26 l0 x6_1).f0), .string ((rd_T26 l0 x6_1).f1), .int .i64 ((rd_T26 l0 x6_1).f2), .int .i64 ((rd_T26 l0 x6_1).f3), .int .i64 ((rd_T26 l0 x6_1).f4), .int .i64 ((rd_T26 l0 x6_1).f5)] (fun _ => True) (fun _ => False) rfl rfl ?aP (fun _ hk => hk.elim) ?aF ?aO ?aB ?aS ?aL ?_; (case aP => exact k26_mkM _ _ _ (⟨(rd_T26 l0 x6_1).f0, (rd_T26 l0 x6_1).f1, (rd_T26 l0 x6_1).f2, (rd_T26 l0 x6_1).f3, (rd_T26 l0 x6_1).f4, (rd_T26 l0 x6_1).f5⟩ : S26)); (case aB => exact (by repeat (first | (with_reducible first | exact HB.out | apply below_alloc | apply pw_below_drewN | apply below_drew1) | exact HB.out))); (case aF => exact (fun _ _ => trivial)); (case aO => exact (by (with_reducible repeat (first | apply Kd.R_alloc | apply Kd.R_drewN | apply Kd.R_drew)); exact HO_5.out)); (case aS => exact (below_size (by repeat (first | (with_reducible first | exact HB.out | apply below_alloc | apply pw_below_drewN | apply below_drew1) | exact HB.out)))); (case aL => have := LMc9.out; omega); intro v566 w10 ho hb hg hat; rw [← Ny565.out] at ho; have n0_ := Aside0.mk (hb); have n1_ := Aside0.mk (ho); clear HB; clear HO_5; have HB := n0_; have HO567 := n1_; clear n0_ n1_; clear ho hb hg hat))
          go_roundg k1
          case measure => have := HK1.out; omega
          case rel => exact ⟨(y565), (wrap64 (x6_1 + 1)), (by first | rfl | (simp; done) | (simp [*]; done)), H', ⟨by have := HK1.out; omega⟩, ⟨by (with_reducible repeat (first | apply Kd.R_alloc | apply Kd.R_drewN | apply Kd.R_drew)); exact HO567.out⟩, ⟨by repeat (first | (with_reducible first | exact HB.out | apply below_alloc | apply pw_below_drewN | apply below_drew1) | exact HB.out)⟩⟩
         ·rw [if_neg c9] at H
          exact absurd H (by simp)
        ·rw [if_neg c8] at H
         have c8b0 : ((((rd_T26 l0 x6_1).f0).extract 0 ((a1.size : Int) : Int).toNat).toList == a1.toList) = false := beq_eq_false_iff_ne.mpr c8
         try (have c8b5 := c8b0; simp only [Int.toNat_natCast] at c8b5)
         have c8b1 : ((((rd_T26 l0 x6_1).f0).extract 0 ((a1.size : Int) : Int).toNat).toList != a1.toList) = true := bne_iff_ne.mpr c8
         try (have c8b6 := c8b1; simp only [Int.toNat_natCast] at c8b6)
         have H' := Aside0.mk H
         clear H
         have p562 : 0 ≤ (x6_1 : Int) := of_decide_eq_true (by assumption)
         have q562 : x6_1 < (l0.length : Int) := of_decide_eq_true (by assumption)
         obtain ⟨ad562, e562, hx562_0, hx562_1, hx562_2, hx562_3, hx562_4, hx562_5⟩ := at_T26 HR0.out x6_1 p562 q562
         cases e562
         replace hx562_0 := (HB.out.cell (World.block_lt_of_cell? w _ hx562_0)).trans hx562_0
         replace hx562_1 := (HB.out.cell (World.block_lt_of_cell? w _ hx562_1)).trans hx562_1
         replace hx562_2 := (HB.out.cell (World.block_lt_of_cell? w _ hx562_2)).trans hx562_2
         replace hx562_3 := (HB.out.cell (World.block_lt_of_cell? w _ hx562_3)).trans hx562_3
         replace hx562_4 := (HB.out.cell (World.block_lt_of_cell? w _ hx562_4)).trans hx562_4
         replace hx562_5 := (HB.out.cell (World.block_lt_of_cell? w _ hx562_5)).trans hx562_5
         replace p562 := eq_true p562
         replace q562 := eq_true q562
         have p563 : 0 ≤ (x6_1 : Int) := of_decide_eq_true (by assumption)
         have q563 : x6_1 < (l0.length : Int) := of_decide_eq_true (by assumption)
         obtain ⟨ad563, e563, hx563_0, hx563_1, hx563_2, hx563_3, hx563_4, hx563_5⟩ := at_T26 HR0.out x6_1 p563 q563
         obtain rfl : ad562 = ad563 := (by injection e563)
         replace hx563_0 := (HB.out.cell (World.block_lt_of_cell? w _ hx563_0)).trans hx563_0
         replace hx563_1 := (HB.out.cell (World.block_lt_of_cell? w _ hx563_1)).trans hx563_1
         replace hx563_2 := (HB.out.cell (World.block_lt_of_cell? w _ hx563_2)).trans hx563_2
         replace hx563_3 := (HB.out.cell (World.block_lt_of_cell? w _ hx563_3)).trans hx563_3
         replace hx563_4 := (HB.out.cell (World.block_lt_of_cell? w _ hx563_4)).trans hx563_4
         replace hx563_5 := (HB.out.cell (World.block_lt_of_cell? w _ hx563_5)).trans hx563_5
         replace p563 := eq_true p563
         replace q563 := eq_true q563
         go_wp2
         go_roundg k1
         case measure => have := HK1.out; omega
         case rel => exact ⟨(x5_1), (wrap64 (x6_1 + 1)), (by first | rfl | (simp; done) | (simp [*]; done)), H', ⟨by have := HK1.out; omega⟩, ⟨by (with_reducible repeat (first | apply Kd.R_alloc | apply Kd.R_drewN | apply Kd.R_drew)); exact HO_5.out⟩, ⟨by repeat (first | (with_reducible first | exact HB.out | apply below_alloc | apply pw_below_drewN | apply below_drew1) | exact HB.out)⟩⟩
       ·rw [if_neg c7] at H
        exact absurd H (by simp)
      ·rw [if_neg c6] at H
       exact absurd H (by simp)
     ·rw [if_neg c5] at H
      have c5b0 : decide ((a1.size : Int) ≤ (((rd_T26 l0 x6_1).f0).size : Int)) = false := decide_eq_false c5
      have c5b1 : decide (a1.size ≤ ((rd_T26 l0 x6_1).f0).size) = false := decide_eq_false (fun h => c5 (Int.ofNat_le.mpr h))
      clear c5
      have H' := Aside0.mk H
      clear H
      have p562 : 0 ≤ (x6_1 : Int) := of_decide_eq_true (by assumption)
      have q562 : x6_1 < (l0.length : Int) := of_decide_eq_true (by assumption)
      obtain ⟨ad562, e562, hx562_0, hx562_1, hx562_2, hx562_3, hx562_4, hx562_5⟩ := at_T26 HR0.out x6_1 p562 q562
      cases e562
      replace hx562_0 := (HB.out.cell (World.block_lt_of_cell? w _ hx562_0)).trans hx562_0
      replace hx562_1 := (HB.out.cell (World.block_lt_of_cell? w _ hx562_1)).trans hx562_1
      replace hx562_2 := (HB.out.cell (World.block_lt_of_cell? w _ hx562_2)).trans hx562_2
      replace hx562_3 := (HB.out.cell (World.block_lt_of_cell? w _ hx562_3)).trans hx562_3
      replace hx562_4 := (HB.out.cell (World.block_lt_of_cell? w _ hx562_4)).trans hx562_4
      replace hx562_5 := (HB.out.cell (World.block_lt_of_cell? w _ hx562_5)).trans hx562_5
      replace p562 := eq_true p562
      replace q562 := eq_true q562
      go_wp2
      go_roundg k1
      case measure => have := HK1.out; omega
      case rel => exact ⟨(x5_1), (wrap64 (x6_1 + 1)), (by first | rfl | (simp; done) | (simp [*]; done)), H', ⟨by have := HK1.out; omega⟩, ⟨by (with_reducible repeat (first | apply Kd.R_alloc | apply Kd.R_drewN | apply Kd.R_drew)); exact HO_5.out⟩, ⟨by repeat (first | (with_reducible first | exact HB.out | apply below_alloc | apply pw_below_drewN | apply below_drew1) | exact HB.out)⟩⟩
    ·rw [if_neg c4] at H
     exact absurd H (by simp)
   ·rw [if_neg c3] at H
    have c3b0 : decide (x6_1 < (l0.length : Int)) = false := decide_eq_false c3
    clear c3
    obtain rfl := Option.some.inj H
    go_wp2
    go_ret
    exact ⟨_, by first | rfl | (simp [*] <;> rfl), by (with_reducible repeat (first | apply Kd.R_alloc | apply Kd.R_drewN | apply Kd.R_drew)); exact HO_5.out, by repeat (first | (with_reducible first | exact HB.out | apply below_alloc | apply pw_below_drewN | apply below_drew1) | exact HB.out)⟩

/-! ### batonlaw04_HistTells: function 3 -/
def batonlaw04_HistTells.j0 : Nat → List (S26) → ByteArray → Bool → Option (Bool)
 | 0, _, _, _ => none
 | k + 1, x0, x1, x16 => if x16 = true then ((batonlaw04_live.f k).bind fun t569 => (some t569)) else ((hist_Find.f x0 x1).bind fun bt570 => ((batonref04_Find.f k x0 x1).bind fun bt578 => ((hist_May.f k x0).bind fun t586 => ((batonref04_May.f k x0).bind fun t587 => (if (t586 == t587) = true then (if (bt570.1.toList == bt578.1.toList && (bt570.2.1.toList == bt578.2.1.toList && (bt570.2.2.1 == bt578.2.2.1 && (bt570.2.2.2.1 == bt578.2.2.2.1 && (bt570.2.2.2.2.1 == bt578.2.2.2.2.1 && (bt570.2.2.2.2.2.1 == bt578.2.2.2.2.2.1)))))) = true then (if (bt570.2.2.2.2.2.2 == bt578.2.2.2.2.2.2) = true then ((hist_Take.f x0 x1).bind fun t588 => ((batonref04_Take.f k x0 x1).bind fun t591 => ((batonref03_KVs.f k t588 t591).bind fun t594 => (if t594 = true then ((hist_From.f k x0 x1).bind fun t595 => ((batonref04_From.f k x0 x1).bind fun t598 => ((batonref03_KVs.f k t595 t598).bind fun t601 => (if t601 = true then ((batonlaw04_live.f k).bind fun t602 => (some t602)) else (none))))) else (none))))) else (none)) else (none)) else (none))))))
def batonlaw04_HistTells.f (k : Nat) (l0 : List (S26)) (a1 : ByteArray) : Option (Bool) := (batonref03_Few.f k l0 40).bind fun t568 => (if t568 = true then (batonlaw04_HistTells.j0 k l0 a1 (decide ((a1.size : Int) > 60))) else (batonlaw04_HistTells.j0 k l0 a1 true))
theorem batonlaw04_HistTells.mono_l : ∀ k, (∀ y0 y1 y2, LeO (batonlaw04_HistTells.j0 k y0 y1 y2) (batonlaw04_HistTells.j0 (k + 1) y0 y1 y2))
 | 0 => fun _ _ _ r h => by simp [batonlaw04_HistTells.j0] at h
 | k + 1 => by
  have ih0 := batonlaw04_HistTells.mono_l k
  ·intro y0 y1 y2
   unfold batonlaw04_HistTells.j0
   repeat' first
   | (with_reducible exact ih0 _ _ _)
   | (with_reducible exact batonlaw04_live.mono _)
   | (with_reducible exact batonref03_Few.mono _ _ _)
   | (with_reducible exact batonref03_KVs.mono _ _ _)
   | (with_reducible exact batonref04_Find.mono _ _ _)
   | (with_reducible exact batonref04_From.mono _ _ _)
   | (with_reducible exact batonref04_May.mono _ _)
   | (with_reducible exact batonref04_Take.mono _ _ _)
   | (with_reducible exact hist_From.mono _ _ _)
   | (with_reducible exact hist_May.mono _ _)
   | (with_reducible exact LeO.refl _)
   | (with_reducible exact LeO.none _)
   | (with_reducible refine LeO.ite ?_ ?_)
   | (with_reducible refine LeO.bind ?_ (fun _ => ?_))
   | exact ih0 _ _ _
   | exact batonlaw04_live.mono _
   | exact batonref03_Few.mono _ _ _
   | exact batonref03_KVs.mono _ _ _
   | exact batonref04_Find.mono _ _ _
   | exact batonref04_From.mono _ _ _
   | exact batonref04_May.mono _ _
   | exact batonref04_Take.mono _ _ _
   | exact hist_From.mono _ _ _
   | exact hist_May.mono _ _
   | exact LeO.none _
   | refine LeO.ite ?_ ?_
   | refine LeO.bind ?_ (fun _ => ?_)
theorem batonlaw04_HistTells.mono : ∀ a0 a1 k, LeO (batonlaw04_HistTells.f k a0 a1) (batonlaw04_HistTells.f (k + 1) a0 a1) := by
 intro a0 a1 k
 have ih0 := batonlaw04_HistTells.mono_l k
 unfold batonlaw04_HistTells.f
 repeat' first
   | (with_reducible exact ih0 _ _ _)
   | (with_reducible exact batonlaw04_live.mono _)
   | (with_reducible exact batonref03_Few.mono _ _ _)
   | (with_reducible exact batonref03_KVs.mono _ _ _)
   | (with_reducible exact batonref04_Find.mono _ _ _)
   | (with_reducible exact batonref04_From.mono _ _ _)
   | (with_reducible exact batonref04_May.mono _ _)
   | (with_reducible exact batonref04_Take.mono _ _ _)
   | (with_reducible exact hist_From.mono _ _ _)
   | (with_reducible exact hist_May.mono _ _)
   | (with_reducible exact LeO.refl _)
   | (with_reducible exact LeO.none _)
   | (with_reducible refine LeO.ite ?_ ?_)
   | (with_reducible refine LeO.bind ?_ (fun _ => ?_))
   | exact ih0 _ _ _
   | exact batonlaw04_live.mono _
   | exact batonref03_Few.mono _ _ _
   | exact batonref03_KVs.mono _ _ _
   | exact batonref04_Find.mono _ _ _
   | exact batonref04_From.mono _ _ _
   | exact batonref04_May.mono _ _
   | exact batonref04_Take.mono _ _ _
   | exact hist_From.mono _ _ _
   | exact hist_May.mono _ _
   | exact LeO.none _
   | refine LeO.ite ?_ ?_
   | refine LeO.bind ?_ (fun _ => ?_)
set_option maxHeartbeats 8000000 in
set_option maxRecDepth 100000 in
theorem batonlaw04_HistTells.calls (k : Nat) (A0 : Option Addr) (c0 : Nat) (l0 : List (S26)) (a1 : ByteArray) (r : Bool) (w : World) (hr0 : Kd.C k26 w A0 l0.length l0) (hc0 : l0.length ≤ c0) (h : batonlaw04_HistTells.f k l0 a1 = some r) :
  Calls Try.prog 3 #[.slice A0 l0.length c0, .string a1] w fun e w' => e = .returned (.bool r) ∧ Below w.heap.size w w' := by
 have hu26 := Try.underlying26
 have HR0 := Aside0.mk hr0
 have HC0 := Aside0.mk hc0
 clear hr0 hc0
 have HB := Aside0.mk (Below.refl w.heap.size w)
 have H : ((batonref03_Few.f k l0 40).bind fun t568 => (if t568 = true then (batonlaw04_HistTells.j0 k l0 a1 (decide ((a1.size : Int) > 60))) else (batonlaw04_HistTells.j0 k l0 a1 true))) = some r := h
 clear h
 have HC3 := Aside0.mk H
 clear H
 go_enter Try.func3, Try.ntmps3
 go_upto_region 1 with (fail)
 go_cut [16] (fun v16 wc => ∃ (kq : Nat) (x16_2 : Bool), v16 = .bool x16_2 ∧ Aside0 (batonlaw04_HistTells.j0 kq l0 a1 x16_2 = some r) ∧ Aside0 (kq ≤ k) ∧ Aside0 (Below w.heap.size w wc))
 case first =>
  have H := HC3.out
  clear HC3
  replace H := Option.bind_eq_some_iff.mp H
  obtain ⟨t568, A40, H⟩ := H
  have A4 := Aside0.mk A40
  clear A40
  by_cases c5 : t568 = true
  ·subst c5
   have H1 : (batonlaw04_HistTells.j0 k l0 a1 (decide ((a1.size : Int) > 60))) = some r := by rw [if_pos rfl] at H; exact H
   clear H
   have H := H1
   clear H1
   have H' := Aside0.mk H
   clear H
   go_wp2_with (first | ((with_reducible refine gate_callee (f := 9) rfl ?_); refine goesL_ (some 10) rfl rfl Try.func9 (by kernel_rfl) rfl #[.slice A0 l0.length c0, .int .i64 40] rfl (by (try simp only [List.map_toArray, List.map_cons, List.map_nil]); first | done | rfl | (simp only [List.length_drop, List.length_take]; rfl)) ?_; (with_reducible refine (batonref03_Few.calls k _ _ l0 40 true _ ?side1 ?side2 A4.out).mono ?_); (case side1 => repeat (first | exact (Kd.C_below HR0.out HB.out) | (with_reducible refine Kd.C_alloc ?_ _) | (with_reducible refine Kd.C_drewN ?_ _) | (with_reducible refine Kd.C_drew ?_))); (case side2 => exact HC0.out); rintro e w' ⟨rfl, ⟨nd, rfl⟩⟩; refine ⟨_, rfl, ?_⟩))
   go_meet
   case rel => exact ⟨_, (decide ((a1.size : Int) > 60)), (by first | rfl | (simp; done) | (simp [*]; done)), H', ⟨by first | omega | exact Nat.le_refl _⟩, ⟨by repeat (first | (with_reducible first | exact HB.out | apply below_alloc | apply pw_below_drewN | apply below_drew1) | exact HB.out)⟩⟩
  ·replace c5 := Bool.eq_false_iff.mpr c5
   subst c5
   have H1 : (batonlaw04_HistTells.j0 k l0 a1 true) = some r := by rw [if_neg (show ¬ (false = true) by decide)] at H; exact H
   clear H
   have H := H1
   clear H1
   have H' := Aside0.mk H
   clear H
   go_wp2_with (first | ((with_reducible refine gate_callee (f := 9) rfl ?_); refine goesL_ (some 10) rfl rfl Try.func9 (by kernel_rfl) rfl #[.slice A0 l0.length c0, .int .i64 40] rfl (by (try simp only [List.map_toArray, List.map_cons, List.map_nil]); first | done | rfl | (simp only [List.length_drop, List.length_take]; rfl)) ?_; (with_reducible refine (batonref03_Few.calls k _ _ l0 40 false _ ?side1 ?side2 A4.out).mono ?_); (case side1 => repeat (first | exact (Kd.C_below HR0.out HB.out) | (with_reducible refine Kd.C_alloc ?_ _) | (with_reducible refine Kd.C_drewN ?_ _) | (with_reducible refine Kd.C_drew ?_))); (case side2 => exact HC0.out); rintro e w' ⟨rfl, ⟨nd, rfl⟩⟩; refine ⟨_, rfl, ?_⟩))
   go_meet
   case rel => exact ⟨_, (true), (by first | rfl | (simp; done) | (simp [*]; done)), H', ⟨by first | omega | exact Nat.le_refl _⟩, ⟨by repeat (first | (with_reducible first | exact HB.out | apply below_alloc | apply pw_below_drewN | apply below_drew1) | exact HB.out)⟩⟩
 case rest =>
  clear HC3
  try clear p2
  try clear c3
  try clear c5
  obtain ⟨kq, x16_2, rfl, HA, HJ2, HB⟩ := hcut
  cases kq with
  | zero => exact absurd HA.out (by simp [batonlaw04_HistTells.j0])
  | succ kj2 =>
   have H := HA.out
   clear HA
   simp only [batonlaw04_HistTells.j0] at H
   by_cases c6 : x16_2 = true
   ·subst c6
    have H1 : ((batonlaw04_live.f kj2).bind fun t569 => (some t569)) = some r := by rw [if_pos rfl] at H; exact H
    clear H
    have H := H1
    clear H1
    replace H := Option.bind_eq_some_iff.mp H
    obtain ⟨t569, A70, H⟩ := H
    have A7 := Aside0.mk A70
    clear A70
    obtain rfl := Option.some.inj H
    go_wp2_with (first | ((with_reducible refine gate_callee (f := 10) rfl ?_); refine goesL_ (some 17) rfl rfl Try.func10 (by kernel_rfl) rfl #[] rfl (by (try simp only [List.map_toArray, List.map_cons, List.map_nil]); first | done | rfl | (simp only [List.length_drop, List.length_take]; rfl)) ?_; (with_reducible refine (batonlaw04_live.calls kj2  t569 _ A7.out).mono ?_); rintro e w8 ⟨rfl, hb⟩; refine ⟨_, rfl, ?_⟩; have n0_ := Aside0.mk (below_step (by repeat (first | (with_reducible first | exact HB.out | apply below_alloc | apply pw_below_drewN | apply below_drew1) | exact HB.out)) hb); clear HB; have HB := n0_; clear n0_))
    go_ret
    exact ⟨by first | rfl | (simp [*] <;> rfl), by repeat (first | (with_reducible first | exact HB.out | apply below_alloc | apply pw_below_drewN | apply below_drew1) | exact HB.out)⟩
   ·replace c6 := Bool.eq_false_iff.mpr c6
    subst c6
    have H1 := H
    rw [if_neg (show ¬ (false = true) by decide)] at H1
    clear H
    have H := H1
    clear H1
    replace H := Option.bind_eq_some_iff.mp H
    obtain ⟨⟨t570, t571, t572, t573, t574, t575, t576⟩, A90, H⟩ := H
    have A9 := Aside0.mk A90
    clear A90
    replace H := Option.bind_eq_some_iff.mp H
    obtain ⟨⟨t578, t579, t580, t581, t582, t583, t584⟩, A100, H⟩ := H
    have A10 := Aside0.mk A100
    clear A100
    replace H := Option.bind_eq_some_iff.mp H
    obtain ⟨t586, A110, H⟩ := H
    have A11 := Aside0.mk A110
    clear A110
    replace H := Option.bind_eq_some_iff.mp H
    obtain ⟨t587, A120, H⟩ := H
    have A12 := Aside0.mk A120
    clear A120
    by_cases c13 : (t586 == t587) = true
    ·rw [if_pos c13] at H
     have c13b0 : (t586 == t587) = true := c13
     (try (have c13b1 : decide (t586 = t587) = true := by simpa using c13))
     (try (have c13b2 : (t586 == t587) = true := by simpa using c13))
     clear c13
     by_cases c14 : (t570.toList == t578.toList && (t571.toList == t579.toList && (t572 == t580 && (t573 == t581 && (t574 == t582 && (t575 == t583)))))) = true
     ·rw [if_pos c14] at H
      have c14b0 : (t570.toList == t578.toList && (t571.toList == t579.toList && (t572 == t580 && (t573 == t581 && (t574 == t582 && (t575 == t583)))))) = true := c14
      (try (have c14b1 : decide (t570.toList = t578.toList && (t571.toList == t579.toList && (t572 == t580 && (t573 == t581 && (t574 == t582 && (t575 == t583)))))) = true := by simpa using c14))
      (try (have c14b2 : (t570.toList == t578.toList && (t571.toList == t579.toList && (t572 == t580 && (t573 == t581 && (t574 == t582 && (t575 == t583)))))) = true := by simpa using c14))
      clear c14
      by_cases c15 : (t576 == t584) = true
      ·rw [if_pos c15] at H
       have c15b0 : (t576 == t584) = true := c15
       (try (have c15b1 : decide (t576 = t584) = true := by simpa using c15))
       (try (have c15b2 : (t576 == t584) = true := by simpa using c15))
       clear c15
       replace H := Option.bind_eq_some_iff.mp H
       obtain ⟨t588, A160, H⟩ := H
       have A16 := Aside0.mk A160
       clear A160
       replace H := Option.bind_eq_some_iff.mp H
       obtain ⟨t591, A170, H⟩ := H
       have A17 := Aside0.mk A170
       clear A170
       replace H := Option.bind_eq_some_iff.mp H
       obtain ⟨t594, A180, H⟩ := H
       have A18 := Aside0.mk A180
       clear A180
       by_cases c19 : t594 = true
       ·subst c19
        have H1 := H
        rw [if_pos rfl] at H1
        clear H
        have H := H1
        clear H1
        replace H := Option.bind_eq_some_iff.mp H
        obtain ⟨t595, A200, H⟩ := H
        have A20 := Aside0.mk A200
        clear A200
        replace H := Option.bind_eq_some_iff.mp H
        obtain ⟨t598, A210, H⟩ := H
        have A21 := Aside0.mk A210
        clear A210
        replace H := Option.bind_eq_some_iff.mp H
        obtain ⟨t601, A220, H⟩ := H
        replace H : (if t601 = true then ((batonlaw04_live.f kj2).bind fun t602 => (some t602)) else (none)) = some r := H
        have A22 := Aside0.mk A220
        clear A220
        by_cases c23 : t601 = true
        ·subst c23
         have H1 : ((batonlaw04_live.f kj2).bind fun t602 => (some t602)) = some r := by rw [if_pos rfl] at H; exact H
         clear H
         have H := H1
         clear H1
         replace H := Option.bind_eq_some_iff.mp H
         obtain ⟨t602, A240, H⟩ := H
         have A24 := Aside0.mk A240
         clear A240
         obtain rfl := Option.some.inj H
         go_wp2_with (first | ((with_reducible refine gate_callee (f := 11) rfl ?_); refine goesL_ (some 21) rfl rfl Try.func11 (by kernel_rfl) rfl #[.slice A0 l0.length c0, .string a1] rfl (by (try simp only [List.map_toArray, List.map_cons, List.map_nil]); first | done | rfl | (simp only [List.length_drop, List.length_take]; rfl)) ?_; (with_reducible refine (hist_Find.calls _ _ l0 a1 t570 t571 t572 t573 t574 t575 t576 _ ?side1 ?side2 A9.out).mono ?_); (case side1 => repeat (first | exact (Kd.C_below HR0.out HB.out) | (with_reducible refine Kd.C_alloc ?_ _) | (with_reducible refine Kd.C_drewN ?_ _) | (with_reducible refine Kd.C_drew ?_))); (case side2 => exact HC0.out); rintro e w25 ⟨rfl, hb⟩; refine ⟨_, rfl, ?_⟩; have n0_ := Aside0.mk (below_step (by repeat (first | (with_reducible first | exact HB.out | apply below_alloc | apply pw_below_drewN | apply below_drew1) | exact HB.out)) hb); clear HB; have HB := n0_; clear n0_) | ((with_reducible refine gate_dst (N := 5) rfl ?_); (try (refine gate_guard (by rfl) ?_; dsimp only)); refine box_event ?hg (N := 5) ?hd (cs := #[.string (⟨#[]⟩ : ByteArray), .string (⟨#[]⟩ : ByteArray), .int .i64 0, .int .i64 0, .int .i64 0, .int .i64 0]) (t := 26) ?hr ?_; (case hd => rfl); (case hg => rfl); (case hr => first | (go_simp; done) | (go_simp; rfl)); intro gb577 hg w26 hbox hb; have n0_ := Aside0.mk (below_step (by repeat (first | (with_reducible first | exact HB.out | apply below_alloc | apply pw_below_drewN | apply below_drew1) | exact HB.out)) hb); have n1_ := Aside0.mk (hbox); have n2_ := Aside0.mk ((by rw [hg]; exact (below_size (by repeat (first | (with_reducible first | exact HB.out | apply below_alloc | apply pw_below_drewN | apply below_drew1) | exact HB.out))) : w.heap.size ≤ gb577)); have n3_ := Aside0.mk ((by rw [hg]; exact (below_size (by repeat (first | (with_reducible first | exact HB.out | apply below_alloc | apply pw_below_drewN | apply below_drew1) | exact HB.out))) : w.heap.size ≤ gb577)); clear HB; have HB := n0_; have BK577 := n1_; have GW577 := n2_; have GE577 := n3_; clear n0_ n1_ n2_ n3_; clear hb hbox hg; have hcz27_0 : w26.cell? ⟨gb577, 0, none⟩ = some (.string (⟨#[]⟩ : ByteArray)) := (blk_cell BK577.out 0).trans rfl; have hcz27_1 : w26.cell? ⟨gb577, 1, none⟩ = some (.string (⟨#[]⟩ : ByteArray)) := (blk_cell BK577.out 1).trans rfl; have hcz27_2 : w26.cell? ⟨gb577, 2, none⟩ = some (.int .i64 0) := (blk_cell BK577.out 2).trans rfl; have hcz27_3 : w26.cell? ⟨gb577, 3, none⟩ = some (.int .i64 0) := (blk_cell BK577.out 3).trans rfl; have hcz27_4 : w26.cell? ⟨gb577, 4, none⟩ = some (.int .i64 0) := (blk_cell BK577.out 4).trans rfl; have hcz27_5 : w26.cell? ⟨gb577, 5, none⟩ = some (.int .i64 0) := (blk_cell BK577.out 5).trans rfl; have hfz27_0 := blk_frozen BK577.out 0; have hfz27_1 := blk_frozen BK577.out 1; have hfz27_2 := blk_frozen BK577.out 2; have hfz27_3 := blk_frozen BK577.out 3; have hfz27_4 := blk_frozen BK577.out 4; have hfz27_5 := blk_frozen BK577.out 5) | ((with_reducible refine gate_callee (f := 12) rfl ?_); refine goesL_ (some 27) rfl rfl Try.func12 (by kernel_rfl) rfl #[.slice A0 l0.length c0, .string a1] rfl (by (try simp only [List.map_toArray, List.map_cons, List.map_nil]); first | done | rfl | (simp only [List.length_drop, List.length_take]; rfl)) ?_; (with_reducible refine (batonref04_Find.calls kj2 _ _ l0 a1 t578 t579 t580 t581 t582 t583 t584 _ ?side1 ?side2 A10.out).mono ?_); (case side1 => exact Kd.C_below HR0.out (by repeat (first | (with_reducible first | exact HB.out | apply below_alloc | apply pw_below_drewN | apply below_drew1 | refine below_set ?_ GE577.out) | exact HB.out))); (case side2 => exact HC0.out); rintro e w28 ⟨rfl, hb⟩; refine ⟨_, rfl, ?_⟩; have n0_ := Aside0.mk (blk_below (g := gb577) (o := .cells #[.string t570, .string t571, .int .i64 t572, .int .i64 t573, .int .i64 t574, .int .i64 t575] 26 (0, 0)) (by (with_reducible repeat (first | refine blk_drewN ?_ _ | refine blk_drew ?_ | refine blk_alloc ?_ _)); refine blk_put (cs := #[.string t570, .string t571, .int .i64 t572, .int .i64 t573, .int .i64 t574, .int .i64 0]) ?_ 5 _ rfl; (with_reducible repeat (first | refine blk_drewN ?_ _ | refine blk_drew ?_ | refine blk_alloc ?_ _)); refine blk_put (cs := #[.string t570, .string t571, .int .i64 t572, .int .i64 t573, .int .i64 0, .int .i64 0]) ?_ 4 _ rfl; (with_reducible repeat (first | refine blk_drewN ?_ _ | refine blk_drew ?_ | refine blk_alloc ?_ _)); refine blk_put (cs := #[.string t570, .string t571, .int .i64 t572, .int .i64 0, .int .i64 0, .int .i64 0]) ?_ 3 _ rfl; (with_reducible repeat (first | refine blk_drewN ?_ _ | refine blk_drew ?_ | refine blk_alloc ?_ _)); refine blk_put (cs := #[.string t570, .string t571, .int .i64 0, .int .i64 0, .int .i64 0, .int .i64 0]) ?_ 2 _ rfl; (with_reducible repeat (first | refine blk_drewN ?_ _ | refine blk_drew ?_ | refine blk_alloc ?_ _)); refine blk_put (cs := #[.string t570, .string (⟨#[]⟩ : ByteArray), .int .i64 0, .int .i64 0, .int .i64 0, .int .i64 0]) ?_ 1 _ rfl; (with_reducible repeat (first | refine blk_drewN ?_ _ | refine blk_drew ?_ | refine blk_alloc ?_ _)); refine blk_put (cs := #[.string (⟨#[]⟩ : ByteArray), .string (⟨#[]⟩ : ByteArray), .int .i64 0, .int .i64 0, .int .i64 0, .int .i64 0]) ?_ 0 _ rfl; (with_reducible repeat (first | refine blk_drewN ?_ _ | refine blk_drew ?_ | refine blk_alloc ?_ _)); exact BK577.out) hb); have n1_ := Aside0.mk (below_step (by repeat (first | (with_reducible first | exact HB.out | apply below_alloc | apply pw_below_drewN | apply below_drew1 | refine below_set ?_ GE577.out) | exact HB.out)) hb); clear BK577; clear HB; have BK577 := n0_; have HB := n1_; clear n0_ n1_) | ((with_reducible refine gate_dst (N := 7) rfl ?_); (try (refine gate_guard (by rfl) ?_; dsimp only)); refine box_event ?hg (N := 7) ?hd (cs := #[.string (⟨#[]⟩ : ByteArray), .string (⟨#[]⟩ : ByteArray), .int .i64 0, .int .i64 0, .int .i64 0, .int .i64 0]) (t := 26) ?hr ?_; (case hd => rfl); (case hg => rfl); (case hr => first | (go_simp; done) | (go_simp; rfl)); intro gb585 hg w29 hbox hb; have n0_ := Aside0.mk (blk_below (g := gb577) (o := .cells #[.string t570, .string t571, .int .i64 t572, .int .i64 t573, .int .i64 t574, .int .i64 t575] 26 (0, 0)) (by (with_reducible repeat (first | refine blk_drewN ?_ _ | refine blk_drew ?_ | refine blk_alloc ?_ _)); exact BK577.out) hb); have n1_ := Aside0.mk (below_step (by repeat (first | (with_reducible first | exact HB.out | apply below_alloc | apply pw_below_drewN | apply below_drew1 | refine below_set ?_ GE577.out) | exact HB.out)) hb); have n2_ := Aside0.mk (hbox); have n3_ := Aside0.mk ((by rw [hg]; exact (below_size (by repeat (first | (with_reducible first | exact HB.out | apply below_alloc | apply pw_below_drewN | apply below_drew1 | refine below_set ?_ GE577.out) | exact HB.out))) : w.heap.size ≤ gb585)); have n4_ := Aside0.mk ((by rw [hg]; exact (below_size (by repeat (first | (with_reducible first | exact HB.out | apply below_alloc | apply pw_below_drewN | apply below_drew1 | refine below_set ?_ GE577.out) | exact HB.out))) : w.heap.size ≤ gb585)); have n5_ := Aside0.mk ((by rw [hg]; exact Nat.ne_of_lt (blk_lt (g := gb577) (o := .cells #[.string t570, .string t571, .int .i64 t572, .int .i64 t573, .int .i64 t574, .int .i64 t575] 26 (0, 0)) (by (with_reducible repeat (first | refine blk_drewN ?_ _ | refine blk_drew ?_ | refine blk_alloc ?_ _)); exact BK577.out)) : gb577 ≠ gb585)); have n6_ := Aside0.mk ((by rw [hg]; exact Nat.ne_of_gt (blk_lt (g := gb577) (o := .cells #[.string t570, .string t571, .int .i64 t572, .int .i64 t573, .int .i64 t574, .int .i64 t575] 26 (0, 0)) (by (with_reducible repeat (first | refine blk_drewN ?_ _ | refine blk_drew ?_ | refine blk_alloc ?_ _)); exact BK577.out)) : gb585 ≠ gb577)); clear BK577; clear HB; have BK577 := n0_; have HB := n1_; have BK585 := n2_; have GW585 := n3_; have GE585 := n4_; have NB577_585 := n5_; have NB585_577 := n6_; clear n0_ n1_ n2_ n3_ n4_ n5_ n6_; clear hb hbox hg; have hnb30 := NB585_577.out; have hnc30 := NB577_585.out; have hcz31_0 : w29.cell? ⟨gb585, 0, none⟩ = some (.string (⟨#[]⟩ : ByteArray)) := (blk_cell BK585.out 0).trans rfl; have hcz31_1 : w29.cell? ⟨gb585, 1, none⟩ = some (.string (⟨#[]⟩ : ByteArray)) := (blk_cell BK585.out 1).trans rfl; have hcz31_2 : w29.cell? ⟨gb585, 2, none⟩ = some (.int .i64 0) := (blk_cell BK585.out 2).trans rfl; have hcz31_3 : w29.cell? ⟨gb585, 3, none⟩ = some (.int .i64 0) := (blk_cell BK585.out 3).trans rfl; have hcz31_4 : w29.cell? ⟨gb585, 4, none⟩ = some (.int .i64 0) := (blk_cell BK585.out 4).trans rfl; have hcz31_5 : w29.cell? ⟨gb585, 5, none⟩ = some (.int .i64 0) := (blk_cell BK585.out 5).trans rfl; have hfz31_0 := blk_frozen BK585.out 0; have hfz31_1 := blk_frozen BK585.out 1; have hfz31_2 := blk_frozen BK585.out 2; have hfz31_3 := blk_frozen BK585.out 3; have hfz31_4 := blk_frozen BK585.out 4; have hfz31_5 := blk_frozen BK585.out 5) | ((with_reducible refine gate_callee (f := 13) rfl ?_); refine goesL_ (some 31) rfl rfl Try.func13 (by kernel_rfl) rfl #[.slice A0 l0.length c0] rfl (by (try simp only [List.map_toArray, List.map_cons, List.map_nil]); first | done | rfl | (simp only [List.length_drop, List.length_take]; rfl)) ?_; (with_reducible refine (hist_May.calls kj2 _ _ l0 t586 _ ?side1 ?side2 A11.out).mono ?_); (case side1 => exact Kd.C_below HR0.out (by repeat (first | (with_reducible first | exact HB.out | apply below_alloc | apply pw_below_drewN | apply below_drew1 | refine below_set ?_ GE577.out | refine below_set ?_ GE585.out) | exact HB.out))); (case side2 => exact HC0.out); rintro e w32 ⟨rfl, hb⟩; refine ⟨_, rfl, ?_⟩; have n0_ := Aside0.mk (blk_below (g := gb577) (o := .cells #[.string t570, .string t571, .int .i64 t572, .int .i64 t573, .int .i64 t574, .int .i64 t575] 26 (0, 0)) (by (with_reducible repeat (first | refine blk_drewN ?_ _ | refine blk_drew ?_ | refine blk_alloc ?_ _)); refine blk_far ?_ NB577_585.out _; (with_reducible repeat (first | refine blk_drewN ?_ _ | refine blk_drew ?_ | refine blk_alloc ?_ _)); refine blk_far ?_ NB577_585.out _; (with_reducible repeat (first | refine blk_drewN ?_ _ | refine blk_drew ?_ | refine blk_alloc ?_ _)); refine blk_far ?_ NB577_585.out _; (with_reducible repeat (first | refine blk_drewN ?_ _ | refine blk_drew ?_ | refine blk_alloc ?_ _)); refine blk_far ?_ NB577_585.out _; (with_reducible repeat (first | refine blk_drewN ?_ _ | refine blk_drew ?_ | refine blk_alloc ?_ _)); refine blk_far ?_ NB577_585.out _; (with_reducible repeat (first | refine blk_drewN ?_ _ | refine blk_drew ?_ | refine blk_alloc ?_ _)); refine blk_far ?_ NB577_585.out _; (with_reducible repeat (first | refine blk_drewN ?_ _ | refine blk_drew ?_ | refine blk_alloc ?_ _)); exact BK577.out) hb); have n1_ := Aside0.mk (blk_below (g := gb585) (o := .cells #[.string t578, .string t579, .int .i64 t580, .int .i64 t581, .int .i64 t582, .int .i64 t583] 26 (0, 0)) (by (with_reducible repeat (first | refine blk_drewN ?_ _ | refine blk_drew ?_ | refine blk_alloc ?_ _)); refine blk_put (cs := #[.string t578, .string t579, .int .i64 t580, .int .i64 t581, .int .i64 t582, .int .i64 0]) ?_ 5 _ rfl; (with_reducible repeat (first | refine blk_drewN ?_ _ | refine blk_drew ?_ | refine blk_alloc ?_ _)); refine blk_put (cs := #[.string t578, .string t579, .int .i64 t580, .int .i64 t581, .int .i64 0, .int .i64 0]) ?_ 4 _ rfl; (with_reducible repeat (first | refine blk_drewN ?_ _ | refine blk_drew ?_ | refine blk_alloc ?_ _)); refine blk_put (cs := #[.string t578, .string t579, .int .i64 t580, .int .i64 0, .int .i64 0, .int .i64 0]) ?_ 3 _ rfl; (with_reducible repeat (first | refine blk_drewN ?_ _ | refine blk_drew ?_ | refine blk_alloc ?_ _)); refine blk_put (cs := #[.string t578, .string t579, .int .i64 0, .int .i64 0, .int .i64 0, .int .i64 0]) ?_ 2 _ rfl; (with_reducible repeat (first | refine blk_drewN ?_ _ | refine blk_drew ?_ | refine blk_alloc ?_ _)); refine blk_put (cs := #[.string t578, .string (⟨#[]⟩ : ByteArray), .int .i64 0, .int .i64 0, .int .i64 0, .int .i64 0]) ?_ 1 _ rfl; (with_reducible repeat (first | refine blk_drewN ?_ _ | refine blk_drew ?_ | refine blk_alloc ?_ _)); refine blk_put (cs := #[.string (⟨#[]⟩ : ByteArray), .string (⟨#[]⟩ : ByteArray), .int .i64 0, .int .i64 0, .int .i64 0, .int .i64 0]) ?_ 0 _ rfl; (with_reducible repeat (first | refine blk_drewN ?_ _ | refine blk_drew ?_ | refine blk_alloc ?_ _)); exact BK585.out) hb); have n2_ := Aside0.mk (below_step (by repeat (first | (with_reducible first | exact HB.out | apply below_alloc | apply pw_below_drewN | apply below_drew1 | refine below_set ?_ GE577.out | refine below_set ?_ GE585.out) | exact HB.out)) hb); clear BK577; clear BK585; clear HB; have BK577 := n0_; have BK585 := n1_; have HB := n2_; clear n0_ n1_ n2_) | ((with_reducible refine gate_callee (f := 14) rfl ?_); refine goesL_ (some 33) rfl rfl Try.func14 (by kernel_rfl) rfl #[.slice A0 l0.length c0] rfl (by (try simp only [List.map_toArray, List.map_cons, List.map_nil]); first | done | rfl | (simp only [List.length_drop, List.length_take]; rfl)) ?_; (with_reducible refine (batonref04_May.calls kj2 _ _ l0 t587 _ ?side1 ?side2 A12.out).mono ?_); (case side1 => repeat (first | exact (Kd.C_below HR0.out HB.out) | (with_reducible refine Kd.C_alloc ?_ _) | (with_reducible refine Kd.C_drewN ?_ _) | (with_reducible refine Kd.C_drew ?_))); (case side2 => exact HC0.out); rintro e w33 ⟨rfl, hb⟩; refine ⟨_, rfl, ?_⟩; have n0_ := Aside0.mk (blk_below (g := gb577) (o := .cells #[.string t570, .string t571, .int .i64 t572, .int .i64 t573, .int .i64 t574, .int .i64 t575] 26 (0, 0)) (by (with_reducible repeat (first | refine blk_drewN ?_ _ | refine blk_drew ?_ | refine blk_alloc ?_ _)); exact BK577.out) hb); have n1_ := Aside0.mk (blk_below (g := gb585) (o := .cells #[.string t578, .string t579, .int .i64 t580, .int .i64 t581, .int .i64 t582, .int .i64 t583] 26 (0, 0)) (by (with_reducible repeat (first | refine blk_drewN ?_ _ | refine blk_drew ?_ | refine blk_alloc ?_ _)); exact BK585.out) hb); have n2_ := Aside0.mk (below_step (by repeat (first | (with_reducible first | exact HB.out | apply below_alloc | apply pw_below_drewN | apply below_drew1 | refine below_set ?_ GE577.out | refine below_set ?_ GE585.out) | exact HB.out)) hb); clear BK577; clear BK585; clear HB; have BK577 := n0_; have BK585 := n1_; have HB := n2_; clear n0_ n1_ n2_; have hcz34_0 : w33.cell? ⟨gb577, 0, none⟩ = some (.string t570) := (blk_cell BK577.out 0).trans rfl; have hcz34_1 : w33.cell? ⟨gb577, 1, none⟩ = some (.string t571) := (blk_cell BK577.out 1).trans rfl; have hcz34_2 : w33.cell? ⟨gb577, 2, none⟩ = some (.int .i64 t572) := (blk_cell BK577.out 2).trans rfl; have hcz34_3 : w33.cell? ⟨gb577, 3, none⟩ = some (.int .i64 t573) := (blk_cell BK577.out 3).trans rfl; have hcz34_4 : w33.cell? ⟨gb577, 4, none⟩ = some (.int .i64 t574) := (blk_cell BK577.out 4).trans rfl; have hcz34_5 : w33.cell? ⟨gb577, 5, none⟩ = some (.int .i64 t575) := (blk_cell BK577.out 5).trans rfl; have hfz34_0 := blk_frozen BK577.out 0; have hfz34_1 := blk_frozen BK577.out 1; have hfz34_2 := blk_frozen BK577.out 2; have hfz34_3 := blk_frozen BK577.out 3; have hfz34_4 := blk_frozen BK577.out 4; have hfz34_5 := blk_frozen BK577.out 5; have hcz35_0 : w33.cell? ⟨gb585, 0, none⟩ = some (.string t578) := (blk_cell BK585.out 0).trans rfl; have hcz35_1 : w33.cell? ⟨gb585, 1, none⟩ = some (.string t579) := (blk_cell BK585.out 1).trans rfl; have hcz35_2 : w33.cell? ⟨gb585, 2, none⟩ = some (.int .i64 t580) := (blk_cell BK585.out 2).trans rfl; have hcz35_3 : w33.cell? ⟨gb585, 3, none⟩ = some (.int .i64 t581) := (blk_cell BK585.out 3).trans rfl; have hcz35_4 : w33.cell? ⟨gb585, 4, none⟩ = some (.int .i64 t582) := (blk_cell BK585.out 4).trans rfl; have hcz35_5 : w33.cell? ⟨gb585, 5, none⟩ = some (.int .i64 t583) := (blk_cell BK585.out 5).trans rfl; have hfz35_0 := blk_frozen BK585.out 0; have hfz35_1 := blk_frozen BK585.out 1; have hfz35_2 := blk_frozen BK585.out 2; have hfz35_3 := blk_frozen BK585.out 3; have hfz35_4 := blk_frozen BK585.out 4; have hfz35_5 := blk_frozen BK585.out 5) | (go_at_call 16; (with_reducible refine (hist_Take.calls (fun k_ => k_ < w.heap.size) _ _ l0 a1 t588 _ ?side1 A16.out).mono ?_); (case side1 => exact Kd.V_mk HC0.out (Kd.F_below (Kd.C_F k26_heap HR0.out) (by repeat (first | (with_reducible first | exact HB.out | apply below_alloc | apply pw_below_drewN | apply below_drew1 | refine below_set ?_ GE577.out | refine below_set ?_ GE585.out) | exact HB.out)))); rintro e w36 ⟨v589, rfl, ho0, hb⟩; have n0_ := Aside0.mk (Kd.R_lower (Kd.R_newB (Kd.R_newB (Kd.R_mono (ok' := fun k_ => True) ho0 (fun _ hk_ => trivial)) (g := gb577) (o := .cells #[.string t570, .string t571, .int .i64 t572, .int .i64 t573, .int .i64 t574, .int .i64 t575] 26 (0, 0)) (by (with_reducible repeat (first | refine blk_drewN ?_ _ | refine blk_drew ?_ | refine blk_alloc ?_ _)); exact BK577.out)) (g := gb585) (o := .cells #[.string t578, .string t579, .int .i64 t580, .int .i64 t581, .int .i64 t582, .int .i64 t583] 26 (0, 0)) (by (with_reducible repeat (first | refine blk_drewN ?_ _ | refine blk_drew ?_ | refine blk_alloc ?_ _)); exact BK585.out)) (below_size (by repeat (first | (with_reducible first | exact HB.out | apply below_alloc | apply pw_below_drewN | apply below_drew1 | refine below_set ?_ GE577.out | refine below_set ?_ GE585.out) | exact HB.out)))); have n1_ := Aside0.mk (blk_below (g := gb577) (o := .cells #[.string t570, .string t571, .int .i64 t572, .int .i64 t573, .int .i64 t574, .int .i64 t575] 26 (0, 0)) (by (with_reducible repeat (first | refine blk_drewN ?_ _ | refine blk_drew ?_ | refine blk_alloc ?_ _)); exact BK577.out) hb); have n2_ := Aside0.mk (blk_below (g := gb585) (o := .cells #[.string t578, .string t579, .int .i64 t580, .int .i64 t581, .int .i64 t582, .int .i64 t583] 26 (0, 0)) (by (with_reducible repeat (first | refine blk_drewN ?_ _ | refine blk_drew ?_ | refine blk_alloc ?_ _)); exact BK585.out) hb); have n3_ := Aside0.mk (below_step (by repeat (first | (with_reducible first | exact HB.out | apply below_alloc | apply pw_below_drewN | apply below_drew1 | refine below_set ?_ GE577.out | refine below_set ?_ GE585.out) | exact HB.out)) hb); clear BK577; clear BK585; clear HB; have HO590 := n0_; have BK577 := n1_; have BK585 := n2_; have HB := n3_; clear n0_ n1_ n2_ n3_; (try clear ho0)) | (go_at_call 17; (with_reducible refine (batonref04_Take.calls kj2 _ _ l0 a1 t591 _ ?side1 ?side2 A17.out).mono ?_); (case side1 => repeat (first | exact (Kd.C_below HR0.out HB.out) | (with_reducible refine Kd.C_alloc ?_ _) | (with_reducible refine Kd.C_drewN ?_ _) | (with_reducible refine Kd.C_drew ?_))); (case side2 => exact HC0.out); rintro e w37 ⟨v592, rfl, ho0, hb⟩; have n0_ := Aside0.mk (Kd.R_elder' (by (with_reducible repeat (first | apply Kd.R_alloc | apply Kd.R_drewN | apply Kd.R_drew)); exact HO590.out) (Kd.R_base ho0) hb); have n1_ := Aside0.mk (Kd.R_lower (Kd.R_newB (Kd.R_newB (Kd.R_new' ho0 (Kd.R_lt (by (with_reducible repeat (first | apply Kd.R_alloc | apply Kd.R_drewN | apply Kd.R_drew)); exact HO590.out))) (g := gb577) (o := .cells #[.string t570, .string t571, .int .i64 t572, .int .i64 t573, .int .i64 t574, .int .i64 t575] 26 (0, 0)) (by (with_reducible repeat (first | refine blk_drewN ?_ _ | refine blk_drew ?_ | refine blk_alloc ?_ _)); exact BK577.out)) (g := gb585) (o := .cells #[.string t578, .string t579, .int .i64 t580, .int .i64 t581, .int .i64 t582, .int .i64 t583] 26 (0, 0)) (by (with_reducible repeat (first | refine blk_drewN ?_ _ | refine blk_drew ?_ | refine blk_alloc ?_ _)); exact BK585.out)) (below_size (by repeat (first | (with_reducible first | exact HB.out | apply below_alloc | apply pw_below_drewN | apply below_drew1 | refine below_set ?_ GE577.out | refine below_set ?_ GE585.out) | exact HB.out)))); have n2_ := Aside0.mk (blk_below (g := gb577) (o := .cells #[.string t570, .string t571, .int .i64 t572, .int .i64 t573, .int .i64 t574, .int .i64 t575] 26 (0, 0)) (by (with_reducible repeat (first | refine blk_drewN ?_ _ | refine blk_drew ?_ | refine blk_alloc ?_ _)); exact BK577.out) hb); have n3_ := Aside0.mk (blk_below (g := gb585) (o := .cells #[.string t578, .string t579, .int .i64 t580, .int .i64 t581, .int .i64 t582, .int .i64 t583] 26 (0, 0)) (by (with_reducible repeat (first | refine blk_drewN ?_ _ | refine blk_drew ?_ | refine blk_alloc ?_ _)); exact BK585.out) hb); have n4_ := Aside0.mk (below_step (by repeat (first | (with_reducible first | exact HB.out | apply below_alloc | apply pw_below_drewN | apply below_drew1 | refine below_set ?_ GE577.out | refine below_set ?_ GE585.out) | exact HB.out)) hb); clear HO590; clear BK577; clear BK585; clear HB; have HO590 := n0_; have HO593 := n1_; have BK577 := n2_; have BK585 := n3_; have HB := n4_; clear n0_ n1_ n2_ n3_ n4_; (try clear ho0); obtain ⟨Ao38, co38, eo38⟩ := Kd.R_slice HO590.out; subst eo38; obtain ⟨Ao39, co39, eo39⟩ := Kd.R_slice HO593.out; subst eo39) | (go_at_call 15; (with_reducible refine (batonref03_KVs.calls kj2 _ _ t588 _ _ t591 true _ ?side1 ?side2 ?side3 ?side4 A18.out).mono ?_); (case side1 => repeat (first | exact (Kd.R_reads' HO590.out).2.2 | (with_reducible refine Kd.C_alloc ?_ _) | (with_reducible refine Kd.C_drewN ?_ _) | (with_reducible refine Kd.C_drew ?_))); (case side2 => exact (Kd.R_reads' HO590.out).2.1); (case side3 => repeat (first | exact (Kd.R_reads' HO593.out).2.2 | (with_reducible refine Kd.C_alloc ?_ _) | (with_reducible refine Kd.C_drewN ?_ _) | (with_reducible refine Kd.C_drew ?_))); (case side4 => exact (Kd.R_reads' HO593.out).2.1); rintro e w' ⟨rfl, ⟨nd, rfl⟩⟩) | (go_at_call 18; (with_reducible refine (hist_From.calls kj2 _ _ l0 a1 t595 _ ?side1 ?side2 A20.out).mono ?_); (case side1 => repeat (first | exact (Kd.C_below HR0.out (by repeat (first | (with_reducible first | exact HB.out | apply below_alloc | apply pw_below_drewN | apply below_drew1 | refine below_set ?_ GE577.out | refine below_set ?_ GE585.out) | exact HB.out))) | (with_reducible refine Kd.C_alloc ?_ _) | (with_reducible refine Kd.C_drewN ?_ _) | (with_reducible refine Kd.C_drew ?_))); (case side2 => exact HC0.out); rintro e w40 ⟨v596, rfl, ho0, hb⟩; have n0_ := Aside0.mk (Kd.R_elder' (by (with_reducible repeat (first | apply Kd.R_alloc | apply Kd.R_drewN | apply Kd.R_drew)); exact HO590.out) (Kd.R_base ho0) hb); have n1_ := Aside0.mk (Kd.R_elder' (by (with_reducible repeat (first | apply Kd.R_alloc | apply Kd.R_drewN | apply Kd.R_drew)); exact HO593.out) (Kd.R_base ho0) hb); have n2_ := Aside0.mk (Kd.R_lower (Kd.R_newB (Kd.R_newB (Kd.R_new' (Kd.R_new' ho0 (Kd.R_lt (by (with_reducible repeat (first | apply Kd.R_alloc | apply Kd.R_drewN | apply Kd.R_drew)); exact HO590.out))) (Kd.R_lt (by (with_reducible repeat (first | apply Kd.R_alloc | apply Kd.R_drewN | apply Kd.R_drew)); exact HO593.out))) (g := gb577) (o := .cells #[.string t570, .string t571, .int .i64 t572, .int .i64 t573, .int .i64 t574, .int .i64 t575] 26 (0, 0)) (by (with_reducible repeat (first | refine blk_drewN ?_ _ | refine blk_drew ?_ | refine blk_alloc ?_ _)); exact BK577.out)) (g := gb585) (o := .cells #[.string t578, .string t579, .int .i64 t580, .int .i64 t581, .int .i64 t582, .int .i64 t583] 26 (0, 0)) (by (with_reducible repeat (first | refine blk_drewN ?_ _ | refine blk_drew ?_ | refine blk_alloc ?_ _)); exact BK585.out)) (below_size (by repeat (first | (with_reducible first | exact HB.out | apply below_alloc | apply pw_below_drewN | apply below_drew1 | refine below_set ?_ GE577.out | refine below_set ?_ GE585.out) | exact HB.out)))); have n3_ := Aside0.mk (blk_below (g := gb577) (o := .cells #[.string t570, .string t571, .int .i64 t572, .int .i64 t573, .int .i64 t574, .int .i64 t575] 26 (0, 0)) (by (with_reducible repeat (first | refine blk_drewN ?_ _ | refine blk_drew ?_ | refine blk_alloc ?_ _)); exact BK577.out) hb); have n4_ := Aside0.mk (blk_below (g := gb585) (o := .cells #[.string t578, .string t579, .int .i64 t580, .int .i64 t581, .int .i64 t582, .int .i64 t583] 26 (0, 0)) (by (with_reducible repeat (first | refine blk_drewN ?_ _ | refine blk_drew ?_ | refine blk_alloc ?_ _)); exact BK585.out) hb); have n5_ := Aside0.mk (below_step (by repeat (first | (with_reducible first | exact HB.out | apply below_alloc | apply pw_below_drewN | apply below_drew1 | refine below_set ?_ GE577.out | refine below_set ?_ GE585.out) | exact HB.out)) hb); clear HO590; clear HO593; clear BK577; clear BK585; clear HB; have HO590 := n0_; have HO593 := n1_; have HO597 := n2_; have BK577 := n3_; have BK585 := n4_; have HB := n5_; clear n0_ n1_ n2_ n3_ n4_ n5_; (try clear ho0)) | (go_at_call 19; (with_reducible refine (batonref04_From.calls kj2 _ _ l0 a1 t598 _ ?side1 ?side2 A21.out).mono ?_); (case side1 => repeat (first | exact (Kd.C_below HR0.out HB.out) | (with_reducible refine Kd.C_alloc ?_ _) | (with_reducible refine Kd.C_drewN ?_ _) | (with_reducible refine Kd.C_drew ?_))); (case side2 => exact HC0.out); rintro e w41 ⟨v599, rfl, ho0, hb⟩; have n0_ := Aside0.mk (Kd.R_elder' (by (with_reducible repeat (first | apply Kd.R_alloc | apply Kd.R_drewN | apply Kd.R_drew)); exact HO590.out) (Kd.R_base ho0) hb); have n1_ := Aside0.mk (Kd.R_elder' (by (with_reducible repeat (first | apply Kd.R_alloc | apply Kd.R_drewN | apply Kd.R_drew)); exact HO593.out) (Kd.R_base ho0) hb); have n2_ := Aside0.mk (Kd.R_elder' (by (with_reducible repeat (first | apply Kd.R_alloc | apply Kd.R_drewN | apply Kd.R_drew)); exact HO597.out) (Kd.R_base ho0) hb); have n3_ := Aside0.mk (Kd.R_lower (Kd.R_newB (Kd.R_newB (Kd.R_new' (Kd.R_new' (Kd.R_new' ho0 (Kd.R_lt (by (with_reducible repeat (first | apply Kd.R_alloc | apply Kd.R_drewN | apply Kd.R_drew)); exact HO590.out))) (Kd.R_lt (by (with_reducible repeat (first | apply Kd.R_alloc | apply Kd.R_drewN | apply Kd.R_drew)); exact HO593.out))) (Kd.R_lt (by (with_reducible repeat (first | apply Kd.R_alloc | apply Kd.R_drewN | apply Kd.R_drew)); exact HO597.out))) (g := gb577) (o := .cells #[.string t570, .string t571, .int .i64 t572, .int .i64 t573, .int .i64 t574, .int .i64 t575] 26 (0, 0)) (by (with_reducible repeat (first | refine blk_drewN ?_ _ | refine blk_drew ?_ | refine blk_alloc ?_ _)); exact BK577.out)) (g := gb585) (o := .cells #[.string t578, .string t579, .int .i64 t580, .int .i64 t581, .int .i64 t582, .int .i64 t583] 26 (0, 0)) (by (with_reducible repeat (first | refine blk_drewN ?_ _ | refine blk_drew ?_ | refine blk_alloc ?_ _)); exact BK585.out)) (below_size (by repeat (first | (with_reducible first | exact HB.out | apply below_alloc | apply pw_below_drewN | apply below_drew1 | refine below_set ?_ GE577.out | refine below_set ?_ GE585.out) | exact HB.out)))); have n4_ := Aside0.mk (blk_below (g := gb577) (o := .cells #[.string t570, .string t571, .int .i64 t572, .int .i64 t573, .int .i64 t574, .int .i64 t575] 26 (0, 0)) (by (with_reducible repeat (first | refine blk_drewN ?_ _ | refine blk_drew ?_ | refine blk_alloc ?_ _)); exact BK577.out) hb); have n5_ := Aside0.mk (blk_below (g := gb585) (o := .cells #[.string t578, .string t579, .int .i64 t580, .int .i64 t581, .int .i64 t582, .int .i64 t583] 26 (0, 0)) (by (with_reducible repeat (first | refine blk_drewN ?_ _ | refine blk_drew ?_ | refine blk_alloc ?_ _)); exact BK585.out) hb); have n6_ := Aside0.mk (below_step (by repeat (first | (with_reducible first | exact HB.out | apply below_alloc | apply pw_below_drewN | apply below_drew1 | refine below_set ?_ GE577.out | refine below_set ?_ GE585.out) | exact HB.out)) hb); clear HO590; clear HO593; clear HO597; clear BK577; clear BK585; clear HB; have HO590 := n0_; have HO593 := n1_; have HO597 := n2_; have HO600 := n3_; have BK577 := n4_; have BK585 := n5_; have HB := n6_; clear n0_ n1_ n2_ n3_ n4_ n5_ n6_; (try clear ho0); obtain ⟨Ao42, co42, eo42⟩ := Kd.R_slice HO597.out; subst eo42; obtain ⟨Ao43, co43, eo43⟩ := Kd.R_slice HO600.out; subst eo43) | (go_at_call 15; (with_reducible refine (batonref03_KVs.calls kj2 _ _ t595 _ _ t598 true _ ?side1 ?side2 ?side3 ?side4 A22.out).mono ?_); (case side1 => repeat (first | exact (Kd.R_reads' HO597.out).2.2 | (with_reducible refine Kd.C_alloc ?_ _) | (with_reducible refine Kd.C_drewN ?_ _) | (with_reducible refine Kd.C_drew ?_))); (case side2 => exact (Kd.R_reads' HO597.out).2.1); (case side3 => repeat (first | exact (Kd.R_reads' HO600.out).2.2 | (with_reducible refine Kd.C_alloc ?_ _) | (with_reducible refine Kd.C_drewN ?_ _) | (with_reducible refine Kd.C_drew ?_))); (case side4 => exact (Kd.R_reads' HO600.out).2.1); rintro e w' ⟨rfl, ⟨nd, rfl⟩⟩) | (go_at_call 10; (with_reducible refine (batonlaw04_live.calls kj2  t602 _ A24.out).mono ?_); rintro e w44 ⟨rfl, hb⟩; have n0_ := Aside0.mk (Kd.R_below (by (with_reducible repeat (first | apply Kd.R_alloc | apply Kd.R_drewN | apply Kd.R_drew)); exact HO590.out) hb); have n1_ := Aside0.mk (Kd.R_below (by (with_reducible repeat (first | apply Kd.R_alloc | apply Kd.R_drewN | apply Kd.R_drew)); exact HO593.out) hb); have n2_ := Aside0.mk (Kd.R_below (by (with_reducible repeat (first | apply Kd.R_alloc | apply Kd.R_drewN | apply Kd.R_drew)); exact HO597.out) hb); have n3_ := Aside0.mk (Kd.R_below (by (with_reducible repeat (first | apply Kd.R_alloc | apply Kd.R_drewN | apply Kd.R_drew)); exact HO600.out) hb); have n4_ := Aside0.mk (blk_below (g := gb577) (o := .cells #[.string t570, .string t571, .int .i64 t572, .int .i64 t573, .int .i64 t574, .int .i64 t575] 26 (0, 0)) (by (with_reducible repeat (first | refine blk_drewN ?_ _ | refine blk_drew ?_ | refine blk_alloc ?_ _)); exact BK577.out) hb); have n5_ := Aside0.mk (blk_below (g := gb585) (o := .cells #[.string t578, .string t579, .int .i64 t580, .int .i64 t581, .int .i64 t582, .int .i64 t583] 26 (0, 0)) (by (with_reducible repeat (first | refine blk_drewN ?_ _ | refine blk_drew ?_ | refine blk_alloc ?_ _)); exact BK585.out) hb); have n6_ := Aside0.mk (below_step (by repeat (first | (with_reducible first | exact HB.out | apply below_alloc | apply pw_below_drewN | apply below_drew1 | refine below_set ?_ GE577.out | refine below_set ?_ GE585.out) | exact HB.out)) hb); clear HO590; clear HO593; clear HO597; clear HO600; clear BK577; clear BK585; clear HB; have HO590 := n0_; have HO593 := n1_; have HO597 := n2_; have HO600 := n3_; have BK577 := n4_; have BK585 := n5_; have HB := n6_; clear n0_ n1_ n2_ n3_ n4_ n5_ n6_))
         go_ret
         exact ⟨by first | rfl | (simp [*] <;> rfl), by repeat (first | (with_reducible first | exact HB.out | apply below_alloc | apply pw_below_drewN | apply below_drew1 | refine below_set ?_ GE577.out | refine below_set ?_ GE585.out) | exact HB.out)⟩
        ·replace c23 := Bool.eq_false_iff.mpr c23
         subst c23
         have H1 : (none) = some r := by rw [if_neg (show ¬ (false = true) by decide)] at H; exact H
         clear H
         have H := H1
         clear H1
         exact absurd H (by simp)
       ·replace c19 := Bool.eq_false_iff.mpr c19
        subst c19
        have H1 : (none) = some r := by rw [if_neg (show ¬ (false = true) by decide)] at H; exact H
        clear H
        have H := H1
        clear H1
        exact absurd H (by simp)
      ·rw [if_neg c15] at H
       exact absurd H (by simp)
     ·rw [if_neg c14] at H
      exact absurd H (by simp)
    ·rw [if_neg c13] at H
     exact absurd H (by simp)

end Go.Proofs.Ytldblgcbmhkmaaa.PM
