-- made by a program of this session (wip/tools/myprint.py over the kit's print) out of the translation; Lean checks it
import Derived.Test.YtfdfilgohcbgfaaPM0
import Derived.Test.YtfdfilgohcbgfaaPM2
import Derived.Test.YtfdfilgohcbgfaaPM3
namespace Go.Proofs.Ytfdfilgohcbgfaa.PM
open Go.RowKit Go.Proofs.YtfdfilgohcbgfaaW.PrintWords Go.Proofs.YtfdfilgohcbgfaaW.PrintLast Go.Proofs.YtfdfilgohcbgfaaW.PrintMore
attribute [local go_sem] max2_int min2_int max_two min_two max_three min_three max_four min_four   -- for this text's walks alone
attribute [local go_sem high] Go.Proofs.Ytfdfilgohcbgfaa.My.str_leq Go.Proofs.Ytfdfilgohcbgfaa.My.str_gtr
set_option linter.unusedVariables false
set_option linter.unusedSimpArgs false

/-! ### bag_odd: function 24 -/
-- (by hand)
def bag_odd.f (a0_0 : Int) (a0_1 : Int) (a0_2 : ByteArray) : Option Bool := some (decide (a0_0 < 0 ∨ a0_0 > 5 ∨ a0_1 < 0 ∨ a0_1 > 5 ∨ a0_0 = a0_1 ∨ (a0_2.size : Int) > 4096))
theorem of_calls (a b : Int) (c : ByteArray) (w : World) : Calls Try.prog 27 #[.agg #[.int .i64 a, .int .i64 b, .string c]] w fun e w' => e = .returned (.agg #[.int .i64 a, .int .i64 b]) ∧ Below w.heap.size w w' :=
  bag_of.calls a b c a b w (by simp [bag_of.f])
/-- What a box of a message holds behind what was made since. -/
theorem box_cells {w w1 : World} {a b : Int} {c : ByteArray} {t : Nat} (h : Below (w.alloc (.cells #[.int .i64 a, .int .i64 b, .string c] t)).heap.size (w.alloc (.cells #[.int .i64 a, .int .i64 b, .string c] t)) w1) :
    w1.heap[w.heap.size]? = some (.cells #[.int .i64 a, .int .i64 b, .string c] t (0, 0)) ∧ Below w.heap.size w w1 :=
  ⟨blk_below (blk_new w _) h, below_then (below_alloc (Below.refl _ _) _) (by simp) h⟩
set_option maxHeartbeats 2000000 in
theorem bag_odd.calls (a0_0 : Int) (a0_1 : Int) (a0_2 : ByteArray) (r : Bool) (w : World) (h : bag_odd.f a0_0 a0_1 a0_2 = some r) :
    Calls Try.prog 24 #[.agg #[.int .i64 a0_0, .int .i64 a0_1, .string a0_2]] w fun e w' => e = .returned (.bool r) ∧ Below w.heap.size w w' := by
  revert h
  generalize a0_0 = a
  generalize a0_1 = b
  generalize a0_2 = c
  intro h
  have hix : ∀ (x0 x1 : Value) (W : World), (Instr.index 44 (.agg #[x0, x1]) (.int .i64 0)).run Try.prog W = .ok x0 W := fun _ _ _ => by kernel_rfl
  have hiy : ∀ (x0 x1 : Value) (W : World), (Instr.index 44 (.agg #[x0, x1]) (.int .i64 1)).run Try.prog W = .ok x1 W := fun _ _ _ => by kernel_rfl
  have H := Aside0.mk (Option.some.inj h)
  clear h
  by_cases h1 : a < 0 ∨ a > 5
  · obtain rfl : r = true := by rw [← H.out]; simp; omega
    clear H
    by_cases h2 : a < 0
    · have d1 : decide (a < 0) = true := decide_eq_true h2
      clear h1 h2
      go_enter Try.func24, Try.ntmps24
      go_wp2_with (go_at_call 27; refine (of_calls _ _ _ _).mono ?_; rintro e w1 ⟨rfl, hb1⟩; have HB1 := Aside0.mk hb1; clear hb1)
      refine wp_loop_rounds 1 ?_
      rw [rounds_succ]
      go_wp2
      go_ret
      exact ⟨rfl, (box_cells HB1.out).2⟩
    · have d1 : decide (a < 0) = false := decide_eq_false h2
      have d2 : decide (5 < a) = true := decide_eq_true (by omega)
      clear h1 h2
      go_enter Try.func24, Try.ntmps24
      go_wp2_with (go_at_call 27; refine (of_calls _ _ _ _).mono ?_; rintro e w1 ⟨rfl, hb1⟩; have HB1 := Aside0.mk hb1; clear hb1)
      refine wp_loop_rounds 1 ?_
      rw [rounds_succ]
      go_wp2
      go_ret
      exact ⟨rfl, (box_cells HB1.out).2⟩
  have d1 : decide (a < 0) = false := decide_eq_false (by omega)
  have d2 : decide (5 < a) = false := decide_eq_false (by omega)
  by_cases h2 : b < 0 ∨ b > 5
  · obtain rfl : r = true := by rw [← H.out]; simp; omega
    clear H
    by_cases h3 : b < 0
    · have d3 : decide (b < 0) = true := decide_eq_true h3
      clear h1 h2 h3
      go_enter Try.func24, Try.ntmps24
      go_wp2_with (go_at_call 27; refine (of_calls _ _ _ _).mono ?_; rintro e w1 ⟨rfl, hb1⟩; have HB1 := Aside0.mk hb1; clear hb1)
      refine wp_loop_rounds 2 ?_
      rw [rounds_succ]
      go_wp2
      rw [rounds_succ]
      go_wp2
      go_ret
      exact ⟨rfl, (box_cells HB1.out).2⟩
    · have d3 : decide (b < 0) = false := decide_eq_false h3
      have d4 : decide (5 < b) = true := decide_eq_true (by omega)
      clear h1 h2 h3
      go_enter Try.func24, Try.ntmps24
      go_wp2_with (go_at_call 27; refine (of_calls _ _ _ _).mono ?_; rintro e w1 ⟨rfl, hb1⟩; have HB1 := Aside0.mk hb1; clear hb1)
      refine wp_loop_rounds 2 ?_
      rw [rounds_succ]
      go_wp2
      rw [rounds_succ]
      go_wp2
      go_ret
      exact ⟨rfl, (box_cells HB1.out).2⟩
  have d3 : decide (b < 0) = false := decide_eq_false (by omega)
  have d4 : decide (5 < b) = false := decide_eq_false (by omega)
  have main : ∀ e : Bool, (a == b) = e → Calls Try.prog 24 #[.agg #[.int .i64 a, .int .i64 b, .string c]] w fun e' w' => e' = .returned (.bool (e || decide (4096 < (c.size : Int)))) ∧ Below w.heap.size w w' := by
    intro e he
    have heq : ∀ W : World, (Op.equalIn 10000 44 (.agg #[.int .i64 a, .int .i64 b]) (.agg #[.int .i64 b, .int .i64 a])).run Try.prog W = .ok e W := fun W => by
      rw [eqA44 9998 W, show (b == a) = (a == b) from Bool.beq_comm, he, Bool.and_self]
    clear he h1 h2 H
    cases e with
    | false =>
      go_enter Try.func24, Try.ntmps24
      go_wp2_with (go_at_call 27; refine (of_calls _ _ _ _).mono ?_; rintro e w1 ⟨rfl, hb1⟩; have HB1 := Aside0.mk (box_cells hb1); clear hb1)
      refine wp_loop_rounds 3 ?_
      rw [rounds_succ]
      go_wp2
      rw [rounds_succ]
      go_wp2
      rw [rounds_succ]
      have lt := blk_lt HB1.out.1
      have c0 : w1.cell? ⟨w.heap.size, 0, none⟩ = some (.int .i64 a) := blk_cell HB1.out.1 0
      have c1 : w1.cell? ⟨w.heap.size, 1, none⟩ = some (.int .i64 b) := blk_cell HB1.out.1 1
      have c2 : w1.cell? ⟨w.heap.size, 2, none⟩ = some (.string c) := blk_cell HB1.out.1 2
      go_wp2
      go_region_held3 (fun w' => w'.cell? ⟨w.heap.size, 0, none⟩ = some (.int .i64 a) ∧ w'.cell? ⟨w.heap.size, 1, none⟩ = some (.int .i64 b) ∧ w'.cell? ⟨w.heap.size, 2, none⟩ = some (.string c)) (go_keep)
        (first | (go_at_call 27; (with_reducible refine (of_calls _ _ _ _).mono ?_); rintro e w2 ⟨rfl, hb2⟩; have k0 := ((My.bcell hb2).1 _ 0 lt).trans c0; have k1 := ((My.bcell hb2).1 _ 1 lt).trans c1; have k2 := ((My.bcell hb2).1 _ 2 lt).trans c2; have HB2 := Aside0.mk hb2; clear hb2))
      all_goals
        go_wp2
        go_ret
        exact ⟨by first | (simp; done) | (simp only [Bool.true_or]; rfl) | rfl, below_step HB1.out.2 (My.below_undrew HB2.out)⟩
    | true =>
      go_enter Try.func24, Try.ntmps24
      go_wp2_with (go_at_call 27; refine (of_calls _ _ _ _).mono ?_; rintro e w1 ⟨rfl, hb1⟩; have HB1 := Aside0.mk (box_cells hb1); clear hb1)
      refine wp_loop_rounds 3 ?_
      rw [rounds_succ]
      go_wp2
      rw [rounds_succ]
      go_wp2
      rw [rounds_succ]
      have lt := blk_lt HB1.out.1
      have c0 : w1.cell? ⟨w.heap.size, 0, none⟩ = some (.int .i64 a) := blk_cell HB1.out.1 0
      have c1 : w1.cell? ⟨w.heap.size, 1, none⟩ = some (.int .i64 b) := blk_cell HB1.out.1 1
      have c2 : w1.cell? ⟨w.heap.size, 2, none⟩ = some (.string c) := blk_cell HB1.out.1 2
      go_wp2
      first | go_region_with (go_at_call 27; (with_reducible refine (of_calls _ _ _ _).mono ?_); rintro e w2 ⟨rfl, hb2⟩; have k0 := ((My.bcell hb2).1 _ 0 lt).trans c0; have k1 := ((My.bcell hb2).1 _ 1 lt).trans c1; have k2 := ((My.bcell hb2).1 _ 2 lt).trans c2; have HB2 := Aside0.mk hb2; clear hb2) | fail
      all_goals
        go_wp2
        go_ret
        exact ⟨by first | (simp; done) | (simp only [Bool.true_or]; rfl) | rfl, below_step HB1.out.2 (My.below_undrew HB2.out)⟩
  have h3 := main _ rfl
  obtain rfl : r = (a == b || decide (4096 < (c.size : Int))) := by rw [← H.out, Bool.eq_iff_iff]; simp; omega
  exact h3


end Go.Proofs.Ytfdfilgohcbgfaa.PM
