-- made by a program of this session (wip/tools/myprint.py over the kit's print) out of the translation; Lean checks it
import Derived.Test.YtaebmmjhokjdbaaPM0
import Derived.Test.YtaebmmjhokjdbaaPM5
import Derived.Test.YtaebmmjhokjdbaaPM6
import Derived.Test.YtaebmmjhokjdbaaPM7
namespace Go.Proofs.Ytaebmmjhokjdbaa.PM
open Go.RowKit Go.Proofs.YtaebmmjhokjdbaaW.PrintWords Go.Proofs.YtaebmmjhokjdbaaW.PrintLast Go.Proofs.YtaebmmjhokjdbaaW.PrintMore
attribute [local go_sem] max2_int min2_int max_two min_two max_three min_three max_four min_four   -- for this text's walks alone
attribute [local go_sem high] Go.Proofs.Ytaebmmjhokjdbaa.My.str_leq Go.Proofs.Ytaebmmjhokjdbaa.My.str_gtr Go.Proofs.Ytaebmmjhokjdbaa.My.str_geq
set_option linter.unusedVariables false
set_option linter.unusedSimpArgs false

/-! ### ticket_Order_1: function 47 -/
-- (by hand)
/-- The variable that the comparison reads, and that nobody writes. -/
def ticket_Order_1.env (P : Nat → Prop) (g : Nat) (w : World) : Prop := g < w.heap.size ∧ ¬ P g ∧ w.cell? ⟨g, 0, none⟩ = some (.func (.func 45) #[] #[])
theorem ticket_Order_1.cell {P : Nat → Prop} {g : Nat} {w : World} (h : ticket_Order_1.env P g w) : w.cell? ⟨g, 0, none⟩ = some (.func (.func 45) #[] #[]) := h.2.2
theorem ticket_Order_1.kept {P : Nat → Prop} {g : Nat} {w W : World} (h : ticket_Order_1.env P g w) (hk : Kept w W (fun k => P k)) : ticket_Order_1.env P g W :=
  ⟨Nat.lt_of_lt_of_le h.1 hk.1, h.2.1, by have e := h.2.2; simp only [World.cell?] at e ⊢; rw [hk.2 g h.1 h.2.1]; exact e⟩
theorem ticket_Order_1.call {P Q : Nat → Prop} {g : Nat} {w W : World} (h : ticket_Order_1.env P g w) (hk : Kept w W (fun k => P k)) (hq : Q g → P g ∨ w.heap.size ≤ g) : ticket_Order_1.env Q g W :=
  ⟨(ticket_Order_1.kept h hk).1, fun q => (hq q).elim h.2.1 (fun c => by have := h.1; omega), (ticket_Order_1.kept h hk).2.2⟩
def ticket_Order_1.f (a0_0 : ByteArray) (a0_1 : ByteArray) (a0_2 : Int) (a0_3 : Int) (a0_4 : Int) (a0_5 : Int) (a1_0 : ByteArray) (a1_1 : ByteArray) (a1_2 : Int) (a1_3 : Int) (a1_4 : Int) (a1_5 : Int) : Option (Int) := some (if a0_2 < a1_2 then -1 else if a0_2 > a1_2 then 1 else Lib.compareBytes a0_0.data.toList a1_0.data.toList)
theorem ticket_Order_1.against (a0_0 : ByteArray) (a0_1 : ByteArray) (a0_2 : Int) (a0_3 : Int) (a0_4 : Int) (a0_5 : Int) (a1_0 : ByteArray) (a1_1 : ByteArray) (a1_2 : Int) (a1_3 : Int) (a1_4 : Int) (a1_5 : Int) (r : Int) (h : ticket_Order_1.f a0_0 a0_1 a0_2 a0_3 a0_4 a0_5 a1_0 a1_1 a1_2 a1_3 a1_4 a1_5 = some r) : ticket_entry_against.f 3 a0_0 a0_1 a0_2 a0_3 a0_4 a0_5 a1_0 a1_1 a1_2 a1_3 a1_4 a1_5 = some r := by
  obtain rfl := Option.some.inj h
  have hn : ∀ x : Int, cmp_isNaN_int.f x = some false := fun x => by unfold cmp_isNaN_int.f; simp
  have e1 : wrap64 ((0 : Int) + 1) = 1 := by unfold wrap64; omega
  have e2 : wrap64 ((1 : Int) + 1) = 2 := by unfold wrap64; omega
  unfold ticket_entry_against.f cmp_Compare_int.f strings_Compare.f bytealg_CompareString.f
  rw [hn, hn]
  simp only [Option.bind_some, Bool.false_eq_true, if_false]
  by_cases h1 : a0_2 < a1_2
  · simp only [if_pos h1, Option.bind_some]
    rfl
  · simp only [if_neg h1]
    by_cases h2 : a0_2 > a1_2
    · simp only [if_pos h2, Option.bind_some]
      rfl
    · simp only [if_neg h2, Option.bind_some]
      generalize Lib.compareBytes a0_0.data.toList a1_0.data.toList = c
      show (cmp_Or_int.l0 3 0 [0, c] ((2 : Nat) : Int) 0).bind some = some c
      unfold cmp_Or_int.l0
      rw [if_pos (by decide), if_pos (by decide), if_pos (by simp), show rd [0, c] 0 = 0 from rfl, if_pos rfl, e1]
      unfold cmp_Or_int.l0
      rw [if_pos (by decide), if_pos (by decide), if_pos (by simp), show rd [0, c] 1 = c from rfl]
      by_cases h3 : c = 0
      · rw [if_pos h3, e2]
        unfold cmp_Or_int.l0
        rw [if_neg (by decide), h3]
        rfl
      · rw [if_neg h3]
        rfl
set_option maxHeartbeats 1000000 in
theorem ticket_Order_1.calls (a0_0 : ByteArray) (a0_1 : ByteArray) (a0_2 : Int) (a0_3 : Int) (a0_4 : Int) (a0_5 : Int) (a1_0 : ByteArray) (a1_1 : ByteArray) (a1_2 : Int) (a1_3 : Int) (a1_4 : Int) (a1_5 : Int) (r : Int) (w : World) {gcl : Nat} (hc : w.cell? ⟨gcl, 0, none⟩ = some (.func (.func 45) #[] #[])) (h : ticket_Order_1.f a0_0 a0_1 a0_2 a0_3 a0_4 a0_5 a1_0 a1_1 a1_2 a1_3 a1_4 a1_5 = some r) :
    Calls Try.prog 47 #[.agg #[.string a0_0, .string a0_1, .int .i64 a0_2, .int .i64 a0_3, .int .i64 a0_4, .int .i64 a0_5], .agg #[.string a1_0, .string a1_1, .int .i64 a1_2, .int .i64 a1_3, .int .i64 a1_4, .int .i64 a1_5], .pointer (some ⟨gcl, 0, none⟩)] w fun e w' => e = .returned (.int .i64 r) ∧ Below w.heap.size w w' := by
  have hu := Try.underlying26
  have hlt : gcl < w.heap.size := World.block_lt_of_cell? w _ hc
  have hlt2 : gcl < w.heap.size + 1 := by omega
  have H := Aside0.mk (ticket_Order_1.against a0_0 a0_1 a0_2 a0_3 a0_4 a0_5 a1_0 a1_1 a1_2 a1_3 a1_4 a1_5 r h)
  clear h
  go_enter Try.func47, Try.ntmps47
  go_wp2_with (go_at_call 45; (with_reducible refine (ticket_entry_against.calls 3 a0_0 a0_1 a0_2 a0_3 a0_4 a0_5 a1_0 a1_1 a1_2 a1_3 a1_4 a1_5 r _ H.out).mono ?_); rintro e w2 ⟨rfl, hb2⟩; have HB2 := Aside0.mk (below_step (below_alloc (below_alloc (Below.refl _ _) _) _) hb2); clear hb2)
  go_ret
  exact ⟨rfl, HB2.out⟩


end Go.Proofs.Ytaebmmjhokjdbaa.PM
