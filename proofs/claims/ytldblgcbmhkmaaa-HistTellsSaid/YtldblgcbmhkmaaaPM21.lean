-- made by a program of this session (wip/tools/myprint.py over the kit's print) out of the translation; Lean checks it
import Derived.Test.YtldblgcbmhkmaaaPM0
namespace Go.Proofs.Ytldblgcbmhkmaaa.PM
open Go.RowKit Go.Proofs.YtldblgcbmhkmaaaW.PrintWords Go.Proofs.YtldblgcbmhkmaaaW.PrintLast Go.Proofs.YtldblgcbmhkmaaaW.PrintMore
attribute [local go_sem] max2_int min2_int max_two min_two max_three min_three max_four min_four   -- for this text's walks alone
attribute [local go_sem high] Go.Proofs.Ytldblgcbmhkmaaa.My.str_leq Go.Proofs.Ytldblgcbmhkmaaa.My.str_gtr Go.Proofs.Ytldblgcbmhkmaaa.My.str_geq
set_option linter.unusedVariables false
set_option linter.unusedSimpArgs false

/-! ### batonref04_Find: function 12 -/
def batonref04_Find.l0 : Nat → List (S26) → ByteArray → Int → Option (ByteArray × ByteArray × Int × Int × Int × Int × Bool)
 | 0, _, _, _ => none
 | k + 1, x0, x1, x6 => if x6 < (x0.length : Int) then (if 0 ≤ x6 then (if ((rd_T26 x0 x6).f0).toList = x1.toList then (some ((rd_T26 x0 x6).f0, (rd_T26 x0 x6).f1, (rd_T26 x0 x6).f2, (rd_T26 x0 x6).f3, (rd_T26 x0 x6).f4, (rd_T26 x0 x6).f5, true)) else (batonref04_Find.l0 k x0 x1 (wrap64 (x6 + 1)))) else (none)) else (some ((⟨#[]⟩ : ByteArray), (⟨#[]⟩ : ByteArray), 0, 0, 0, 0, false))
def batonref04_Find.f (k : Nat) (l0 : List (S26)) (a1 : ByteArray) : Option (ByteArray × ByteArray × Int × Int × Int × Int × Bool) := batonref04_Find.l0 k l0 a1 0
theorem batonref04_Find.mono_l : ∀ k, (∀ y0 y1 y2, LeO (batonref04_Find.l0 k y0 y1 y2) (batonref04_Find.l0 (k + 1) y0 y1 y2))
 | 0 => fun _ _ _ r h => by simp [batonref04_Find.l0] at h
 | k + 1 => by
  have ih0 := batonref04_Find.mono_l k
  ·intro y0 y1 y2
   unfold batonref04_Find.l0
   repeat' first
   | (with_reducible exact ih0 _ _ _)
   | (with_reducible exact LeO.refl _)
   | (with_reducible exact LeO.none _)
   | (with_reducible refine LeO.ite ?_ ?_)
   | (with_reducible refine LeO.bind ?_ (fun _ => ?_))
   | exact ih0 _ _ _
   | exact LeO.none _
   | refine LeO.ite ?_ ?_
   | refine LeO.bind ?_ (fun _ => ?_)
theorem batonref04_Find.mono : ∀ a0 a1 k, LeO (batonref04_Find.f k a0 a1) (batonref04_Find.f (k + 1) a0 a1) := by
 intro a0 a1 k
 have ih0 := batonref04_Find.mono_l k
 unfold batonref04_Find.f
 repeat' first
   | (with_reducible exact ih0 _ _ _)
   | (with_reducible exact LeO.refl _)
   | (with_reducible exact LeO.none _)
   | (with_reducible refine LeO.ite ?_ ?_)
   | (with_reducible refine LeO.bind ?_ (fun _ => ?_))
   | exact ih0 _ _ _
   | exact LeO.none _
   | refine LeO.ite ?_ ?_
   | refine LeO.bind ?_ (fun _ => ?_)
set_option maxHeartbeats 8000000 in
set_option maxRecDepth 100000 in
theorem batonref04_Find.calls (k : Nat) (A0 : Option Addr) (c0 : Nat) (l0 : List (S26)) (a1 : ByteArray) (r1 : ByteArray) (r2 : ByteArray) (r3 : Int) (r4 : Int) (r5 : Int) (r6 : Int) (r7 : Bool) (w : World) (hr0 : Kd.C k26 w A0 l0.length l0) (hc0 : l0.length ≤ c0) (h : batonref04_Find.f k l0 a1 = some (r1, r2, r3, r4, r5, r6, r7)) :
  Calls Try.prog 12 #[.slice A0 l0.length c0, .string a1] w fun e w' => e = .returned (.tuple #[.agg #[.string r1, .string r2, .int .i64 r3, .int .i64 r4, .int .i64 r5, .int .i64 r6], .bool r7]) ∧ Below w.heap.size w w' := by
 have hu26 := Try.underlying26
 have HR0 := Aside0.mk hr0
 have HC0 := Aside0.mk hc0
 clear hr0 hc0
 have HB := Aside0.mk (Below.refl w.heap.size w)
 have H : (batonref04_Find.l0 k l0 a1 0) = some (r1, r2, r3, r4, r5, r6, r7) := h
 clear h
 have H' := Aside0.mk H
 clear H
 go_enter Try.func12, Try.ntmps12
 go_wp2_with (first | ((with_reducible refine gate_dst (N := 4) rfl ?_); refine box_event ?hg (N := 4) ?hd (cs := #[.string (⟨#[]⟩ : ByteArray), .string (⟨#[]⟩ : ByteArray), .int .i64 0, .int .i64 0, .int .i64 0, .int .i64 0]) (t := 26) ?hr ?_; (case hd => rfl); (case hg => rfl); (case hr => first | (go_simp; done) | (go_simp; rfl)); intro gb555 hg w3 hbox hb; have n0_ := Aside0.mk (below_step (by repeat (first | (with_reducible first | exact HB.out | apply below_alloc | apply pw_below_drewN | apply below_drew1) | exact HB.out)) hb); have n1_ := Aside0.mk (hbox); have n2_ := Aside0.mk ((by rw [hg]; exact (below_size (by repeat (first | (with_reducible first | exact HB.out | apply below_alloc | apply pw_below_drewN | apply below_drew1) | exact HB.out))) : w.heap.size ≤ gb555)); have n3_ := Aside0.mk ((by rw [hg]; exact (below_size (by repeat (first | (with_reducible first | exact HB.out | apply below_alloc | apply pw_below_drewN | apply below_drew1) | exact HB.out))) : w.heap.size ≤ gb555)); clear HB; have HB := n0_; have BK555 := n1_; have GW555 := n2_; have GE555 := n3_; clear n0_ n1_ n2_ n3_; clear hb hbox hg))
 go_loopg [6] k (fun kq v6 w' => ∃ (x6_1 : Int) (x556000_1 : ByteArray) (x556001_1 : ByteArray) (x556002_1 : Int) (x556003_1 : Int) (x556004_1 : Int) (x556005_1 : Int), v6 = .int .i64 x6_1 ∧ Aside0 (batonref04_Find.l0 kq l0 a1 x6_1 = some (r1, r2, r3, r4, r5, r6, r7)) ∧ Aside0 (kq ≤ k) ∧ Aside0 (w'.heap[gb555]? = some (.cells #[.string x556000_1, .string x556001_1, .int .i64 x556002_1, .int .i64 x556003_1, .int .i64 x556004_1, .int .i64 x556005_1] 26 (0, 0))) ∧ Aside0 (Below w.heap.size w w'))
 case atStart => exact ⟨(0), ((⟨#[]⟩ : ByteArray)), ((⟨#[]⟩ : ByteArray)), (0), (0), (0), (0), (by first | rfl | (simp; done) | (simp [*]; done)), H', ⟨Nat.le_refl _⟩, ⟨by (with_reducible repeat (first | refine blk_drewN ?_ _ | refine blk_drew ?_ | refine blk_alloc ?_ _)); exact BK555.out⟩, ⟨by repeat (first | (with_reducible first | exact HB.out | apply below_alloc | apply pw_below_drewN | apply below_drew1 | refine below_set ?_ GE555.out) | exact HB.out)⟩⟩
 case round =>
  clear H'
  try clear c1
  try clear p2
  obtain ⟨x6_1, x556000_1, x556001_1, x556002_1, x556003_1, x556004_1, x556005_1, rfl, HA, HK1, BK555, HB⟩ := hrel
  cases gk with
  | zero => exact absurd HA.out (by simp [batonref04_Find.l0])
  | succ k1 =>
   have H := HA.out
   clear HA
   simp only [batonref04_Find.l0] at H
   by_cases c4 : x6_1 < (l0.length : Int)
   ·rw [if_pos c4] at H
    have c4b0 : decide (x6_1 < (l0.length : Int)) = true := decide_eq_true c4
    clear c4
    by_cases c5 : 0 ≤ x6_1
    ·rw [if_pos c5] at H
     have c5b0 : decide (0 ≤ x6_1) = true := decide_eq_true c5
     clear c5
     by_cases c6 : ((rd_T26 l0 x6_1).f0).toList = a1.toList
     ·rw [if_pos c6] at H
      have c6b0 : (((rd_T26 l0 x6_1).f0).toList == a1.toList) = true := beq_iff_eq.mpr c6
      have c6b1 : (((rd_T26 l0 x6_1).f0).toList != a1.toList) = false := bne_eq_false_iff_eq.mpr c6
      clear c6
      simp only [Option.some.injEq, Prod.mk.injEq] at H
      obtain ⟨rfl, rfl, rfl, rfl, rfl, rfl, rfl⟩ := H
      have p556 : 0 ≤ (x6_1 : Int) := of_decide_eq_true (by assumption)
      have q556 : x6_1 < (l0.length : Int) := of_decide_eq_true (by assumption)
      obtain ⟨ad556, e556, hx556_0, hx556_1, hx556_2, hx556_3, hx556_4, hx556_5⟩ := at_T26 HR0.out x6_1 p556 q556
      cases e556
      replace hx556_0 := (HB.out.cell (World.block_lt_of_cell? w _ hx556_0)).trans hx556_0
      replace hx556_1 := (HB.out.cell (World.block_lt_of_cell? w _ hx556_1)).trans hx556_1
      replace hx556_2 := (HB.out.cell (World.block_lt_of_cell? w _ hx556_2)).trans hx556_2
      replace hx556_3 := (HB.out.cell (World.block_lt_of_cell? w _ hx556_3)).trans hx556_3
      replace hx556_4 := (HB.out.cell (World.block_lt_of_cell? w _ hx556_4)).trans hx556_4
      replace hx556_5 := (HB.out.cell (World.block_lt_of_cell? w _ hx556_5)).trans hx556_5
      replace p556 := eq_true p556
      replace q556 := eq_true q556
      have p557 : 0 ≤ (x6_1 : Int) := of_decide_eq_true (by assumption)
      have q557 : x6_1 < (l0.length : Int) := of_decide_eq_true (by assumption)
      obtain ⟨ad557, e557, hx557_0, hx557_1, hx557_2, hx557_3, hx557_4, hx557_5⟩ := at_T26 HR0.out x6_1 p557 q557
      obtain rfl : ad556 = ad557 := (by injection e557)
      replace hx557_0 := (HB.out.cell (World.block_lt_of_cell? w _ hx557_0)).trans hx557_0
      replace hx557_1 := (HB.out.cell (World.block_lt_of_cell? w _ hx557_1)).trans hx557_1
      replace hx557_2 := (HB.out.cell (World.block_lt_of_cell? w _ hx557_2)).trans hx557_2
      replace hx557_3 := (HB.out.cell (World.block_lt_of_cell? w _ hx557_3)).trans hx557_3
      replace hx557_4 := (HB.out.cell (World.block_lt_of_cell? w _ hx557_4)).trans hx557_4
      replace hx557_5 := (HB.out.cell (World.block_lt_of_cell? w _ hx557_5)).trans hx557_5
      replace p557 := eq_true p557
      replace q557 := eq_true q557
      have hcz7_0 : wr.cell? ⟨gb555, 0, none⟩ = some (.string x556000_1) := (blk_cell BK555.out 0).trans rfl
      have hcz7_1 : wr.cell? ⟨gb555, 1, none⟩ = some (.string x556001_1) := (blk_cell BK555.out 1).trans rfl
      have hcz7_2 : wr.cell? ⟨gb555, 2, none⟩ = some (.int .i64 x556002_1) := (blk_cell BK555.out 2).trans rfl
      have hcz7_3 : wr.cell? ⟨gb555, 3, none⟩ = some (.int .i64 x556003_1) := (blk_cell BK555.out 3).trans rfl
      have hcz7_4 : wr.cell? ⟨gb555, 4, none⟩ = some (.int .i64 x556004_1) := (blk_cell BK555.out 4).trans rfl
      have hcz7_5 : wr.cell? ⟨gb555, 5, none⟩ = some (.int .i64 x556005_1) := (blk_cell BK555.out 5).trans rfl
      have hfz7_0 := blk_frozen BK555.out 0
      have hfz7_1 := blk_frozen BK555.out 1
      have hfz7_2 := blk_frozen BK555.out 2
      have hfz7_3 := blk_frozen BK555.out 3
      have hfz7_4 := blk_frozen BK555.out 4
      have hfz7_5 := blk_frozen BK555.out 5
      go_wp2
      refine bodyPost_ret (results_ct rfl _ _ gb555 26 #[.string ((rd_T26 l0 x6_1).f0), .string ((rd_T26 l0 x6_1).f1), .int .i64 ((rd_T26 l0 x6_1).f2), .int .i64 ((rd_T26 l0 x6_1).f3), .int .i64 ((rd_T26 l0 x6_1).f4), .int .i64 ((rd_T26 l0 x6_1).f5)] (0, 0) _ rfl (by (with_reducible repeat (first | refine blk_drewN ?_ _ | refine blk_drew ?_ | refine blk_alloc ?_ _)); refine blk_put (cs := #[.string ((rd_T26 l0 x6_1).f0), .string ((rd_T26 l0 x6_1).f1), .int .i64 ((rd_T26 l0 x6_1).f2), .int .i64 ((rd_T26 l0 x6_1).f3), .int .i64 ((rd_T26 l0 x6_1).f4), .int .i64 x556005_1]) ?_ 5 _ rfl; (with_reducible repeat (first | refine blk_drewN ?_ _ | refine blk_drew ?_ | refine blk_alloc ?_ _)); refine blk_put (cs := #[.string ((rd_T26 l0 x6_1).f0), .string ((rd_T26 l0 x6_1).f1), .int .i64 ((rd_T26 l0 x6_1).f2), .int .i64 ((rd_T26 l0 x6_1).f3), .int .i64 x556004_1, .int .i64 x556005_1]) ?_ 4 _ rfl; (with_reducible repeat (first | refine blk_drewN ?_ _ | refine blk_drew ?_ | refine blk_alloc ?_ _)); refine blk_put (cs := #[.string ((rd_T26 l0 x6_1).f0), .string ((rd_T26 l0 x6_1).f1), .int .i64 ((rd_T26 l0 x6_1).f2), .int .i64 x556003_1, .int .i64 x556004_1, .int .i64 x556005_1]) ?_ 3 _ rfl; (with_reducible repeat (first | refine blk_drewN ?_ _ | refine blk_drew ?_ | refine blk_alloc ?_ _)); refine blk_put (cs := #[.string ((rd_T26 l0 x6_1).f0), .string ((rd_T26 l0 x6_1).f1), .int .i64 x556002_1, .int .i64 x556003_1, .int .i64 x556004_1, .int .i64 x556005_1]) ?_ 2 _ rfl; (with_reducible repeat (first | refine blk_drewN ?_ _ | refine blk_drew ?_ | refine blk_alloc ?_ _)); refine blk_put (cs := #[.string ((rd_T26 l0 x6_1).f0), .string x556001_1, .int .i64 x556002_1, .int .i64 x556003_1, .int .i64 x556004_1, .int .i64 x556005_1]) ?_ 1 _ rfl; (with_reducible repeat (first | refine blk_drewN ?_ _ | refine blk_drew ?_ | refine blk_alloc ?_ _)); refine blk_put (cs := #[.string x556000_1, .string x556001_1, .int .i64 x556002_1, .int .i64 x556003_1, .int .i64 x556004_1, .int .i64 x556005_1]) ?_ 0 _ rfl; (with_reducible repeat (first | refine blk_drewN ?_ _ | refine blk_drew ?_ | refine blk_alloc ?_ _)); exact BK555.out) Try.underlying26 rfl (by kernel_rfl)) rfl ?_
      exact ⟨by first | rfl | (simp [*] <;> rfl), by repeat (first | (with_reducible first | exact HB.out | apply below_alloc | apply pw_below_drewN | apply below_drew1 | refine below_set ?_ GE555.out) | exact HB.out)⟩
     ·rw [if_neg c6] at H
      have c6b0 : (((rd_T26 l0 x6_1).f0).toList == a1.toList) = false := beq_eq_false_iff_ne.mpr c6
      have c6b1 : (((rd_T26 l0 x6_1).f0).toList != a1.toList) = true := bne_iff_ne.mpr c6
      have H' := Aside0.mk H
      clear H
      have p556 : 0 ≤ (x6_1 : Int) := of_decide_eq_true (by assumption)
      have q556 : x6_1 < (l0.length : Int) := of_decide_eq_true (by assumption)
      obtain ⟨ad556, e556, hx556_0, hx556_1, hx556_2, hx556_3, hx556_4, hx556_5⟩ := at_T26 HR0.out x6_1 p556 q556
      cases e556
      replace hx556_0 := (HB.out.cell (World.block_lt_of_cell? w _ hx556_0)).trans hx556_0
      replace hx556_1 := (HB.out.cell (World.block_lt_of_cell? w _ hx556_1)).trans hx556_1
      replace hx556_2 := (HB.out.cell (World.block_lt_of_cell? w _ hx556_2)).trans hx556_2
      replace hx556_3 := (HB.out.cell (World.block_lt_of_cell? w _ hx556_3)).trans hx556_3
      replace hx556_4 := (HB.out.cell (World.block_lt_of_cell? w _ hx556_4)).trans hx556_4
      replace hx556_5 := (HB.out.cell (World.block_lt_of_cell? w _ hx556_5)).trans hx556_5
      replace p556 := eq_true p556
      replace q556 := eq_true q556
      go_wp2
      go_roundg k1
      case measure => have := HK1.out; omega
      case rel => exact ⟨(wrap64 (x6_1 + 1)), (x556000_1), (x556001_1), (x556002_1), (x556003_1), (x556004_1), (x556005_1), (by first | rfl | (simp; done) | (simp [*]; done)), H', ⟨by have := HK1.out; omega⟩, ⟨by (with_reducible repeat (first | refine blk_drewN ?_ _ | refine blk_drew ?_ | refine blk_alloc ?_ _)); exact BK555.out⟩, ⟨by repeat (first | (with_reducible first | exact HB.out | apply below_alloc | apply pw_below_drewN | apply below_drew1 | refine below_set ?_ GE555.out) | exact HB.out)⟩⟩
    ·rw [if_neg c5] at H
     exact absurd H (by simp)
   ·rw [if_neg c4] at H
    have c4b0 : decide (x6_1 < (l0.length : Int)) = false := decide_eq_false c4
    clear c4
    simp only [Option.some.injEq, Prod.mk.injEq] at H
    obtain ⟨rfl, rfl, rfl, rfl, rfl, rfl, rfl⟩ := H
    have hcz8_0 : wr.cell? ⟨gb555, 0, none⟩ = some (.string x556000_1) := (blk_cell BK555.out 0).trans rfl
    have hcz8_1 : wr.cell? ⟨gb555, 1, none⟩ = some (.string x556001_1) := (blk_cell BK555.out 1).trans rfl
    have hcz8_2 : wr.cell? ⟨gb555, 2, none⟩ = some (.int .i64 x556002_1) := (blk_cell BK555.out 2).trans rfl
    have hcz8_3 : wr.cell? ⟨gb555, 3, none⟩ = some (.int .i64 x556003_1) := (blk_cell BK555.out 3).trans rfl
    have hcz8_4 : wr.cell? ⟨gb555, 4, none⟩ = some (.int .i64 x556004_1) := (blk_cell BK555.out 4).trans rfl
    have hcz8_5 : wr.cell? ⟨gb555, 5, none⟩ = some (.int .i64 x556005_1) := (blk_cell BK555.out 5).trans rfl
    have hfz8_0 := blk_frozen BK555.out 0
    have hfz8_1 := blk_frozen BK555.out 1
    have hfz8_2 := blk_frozen BK555.out 2
    have hfz8_3 := blk_frozen BK555.out 3
    have hfz8_4 := blk_frozen BK555.out 4
    have hfz8_5 := blk_frozen BK555.out 5
    go_wp2
    refine bodyPost_ret (results_ct rfl _ _ gb555 26 #[.string (⟨#[]⟩ : ByteArray), .string (⟨#[]⟩ : ByteArray), .int .i64 0, .int .i64 0, .int .i64 0, .int .i64 0] (0, 0) _ rfl (by (with_reducible repeat (first | refine blk_drewN ?_ _ | refine blk_drew ?_ | refine blk_alloc ?_ _)); refine blk_put (cs := #[.string (⟨#[]⟩ : ByteArray), .string (⟨#[]⟩ : ByteArray), .int .i64 0, .int .i64 0, .int .i64 0, .int .i64 x556005_1]) ?_ 5 _ rfl; (with_reducible repeat (first | refine blk_drewN ?_ _ | refine blk_drew ?_ | refine blk_alloc ?_ _)); refine blk_put (cs := #[.string (⟨#[]⟩ : ByteArray), .string (⟨#[]⟩ : ByteArray), .int .i64 0, .int .i64 0, .int .i64 x556004_1, .int .i64 x556005_1]) ?_ 4 _ rfl; (with_reducible repeat (first | refine blk_drewN ?_ _ | refine blk_drew ?_ | refine blk_alloc ?_ _)); refine blk_put (cs := #[.string (⟨#[]⟩ : ByteArray), .string (⟨#[]⟩ : ByteArray), .int .i64 0, .int .i64 x556003_1, .int .i64 x556004_1, .int .i64 x556005_1]) ?_ 3 _ rfl; (with_reducible repeat (first | refine blk_drewN ?_ _ | refine blk_drew ?_ | refine blk_alloc ?_ _)); refine blk_put (cs := #[.string (⟨#[]⟩ : ByteArray), .string (⟨#[]⟩ : ByteArray), .int .i64 x556002_1, .int .i64 x556003_1, .int .i64 x556004_1, .int .i64 x556005_1]) ?_ 2 _ rfl; (with_reducible repeat (first | refine blk_drewN ?_ _ | refine blk_drew ?_ | refine blk_alloc ?_ _)); refine blk_put (cs := #[.string (⟨#[]⟩ : ByteArray), .string x556001_1, .int .i64 x556002_1, .int .i64 x556003_1, .int .i64 x556004_1, .int .i64 x556005_1]) ?_ 1 _ rfl; (with_reducible repeat (first | refine blk_drewN ?_ _ | refine blk_drew ?_ | refine blk_alloc ?_ _)); refine blk_put (cs := #[.string x556000_1, .string x556001_1, .int .i64 x556002_1, .int .i64 x556003_1, .int .i64 x556004_1, .int .i64 x556005_1]) ?_ 0 _ rfl; (with_reducible repeat (first | refine blk_drewN ?_ _ | refine blk_drew ?_ | refine blk_alloc ?_ _)); exact BK555.out) Try.underlying26 rfl (by kernel_rfl)) rfl ?_
    exact ⟨by first | rfl | (simp [*] <;> rfl), by repeat (first | (with_reducible first | exact HB.out | apply below_alloc | apply pw_below_drewN | apply below_drew1 | refine below_set ?_ GE555.out) | exact HB.out)⟩

end Go.Proofs.Ytldblgcbmhkmaaa.PM
