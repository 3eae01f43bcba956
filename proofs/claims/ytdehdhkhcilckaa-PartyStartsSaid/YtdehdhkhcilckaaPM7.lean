-- made by a program of this session (wip/tools/myprint.py over the kit's print) out of the translation; Lean checks it
import Derived.Test.YtdehdhkhcilckaaPM0
namespace Go.Proofs.Ytdehdhkhcilckaa.PM
open Go.RowKit Go.Proofs.YtdehdhkhcilckaaW.PrintWords Go.Proofs.YtdehdhkhcilckaaW.PrintLast Go.Proofs.YtdehdhkhcilckaaW.PrintMore
attribute [local go_sem] max2_int min2_int max_two min_two max_three min_three max_four min_four   -- for this text's walks alone
attribute [local go_sem high] Go.Proofs.Ytdehdhkhcilckaa.My.str_leq Go.Proofs.Ytdehdhkhcilckaa.My.str_gtr Go.Proofs.Ytdehdhkhcilckaa.My.str_geq
set_option linter.unusedVariables false
set_option linter.unusedSimpArgs false

/-! ### key_letter: function 33 -/
-- (by hand)
def key_letter.f (a0 : Int) : Option ByteArray := some (if a0 = 1 then ⟨#[109]⟩ else if a0 = 2 then ⟨#[108]⟩ else if a0 = 3 then ⟨#[108]⟩ else if a0 = 4 then ⟨#[115]⟩ else if a0 = 5 then ⟨#[101]⟩ else if a0 = 6 then ⟨#[112]⟩ else if a0 = 7 then ⟨#[113]⟩ else if a0 = 8 then ⟨#[113]⟩ else ⟨#[]⟩)
set_option maxHeartbeats 2000000 in
theorem key_letter.calls (a0 : Int) (r : ByteArray) (w : World) (h : key_letter.f a0 = some r) :
    Calls Try.prog 33 #[.int .i64 a0] w fun e w' => e = .returned (.string r) ∧ Below w.heap.size w w' := by
  have H := Option.some.inj h
  clear h
  by_cases h1 : a0 < 0 ∨ a0 ≥ 9
  · obtain rfl : r = ⟨#[]⟩ := by
      rw [← H, if_neg (by omega), if_neg (by omega), if_neg (by omega), if_neg (by omega), if_neg (by omega), if_neg (by omega), if_neg (by omega), if_neg (by omega)]
    clear H
    by_cases h2 : a0 < 0
    · have d1 : decide (a0 < 0) = true := decide_eq_true h2
      clear h1 h2
      go_enter Try.func33, Try.ntmps33
      go_wp2
      go_ret
      exact ⟨rfl, below_alloc (Below.refl _ _) _⟩
    · have d1 : decide (a0 < 0) = false := decide_eq_false h2
      have d2 : decide (9 ≤ a0) = true := decide_eq_true (by omega)
      clear h1 h2
      go_enter Try.func33, Try.ntmps33
      go_wp2
      go_ret
      exact ⟨rfl, below_alloc (Below.refl _ _) _⟩
  have h2 : a0 = 0 ∨ a0 = 1 ∨ a0 = 2 ∨ a0 = 3 ∨ a0 = 4 ∨ a0 = 5 ∨ a0 = 6 ∨ a0 = 7 ∨ a0 = 8 := by omega
  clear h1
  rcases h2 with rfl | rfl | rfl | rfl | rfl | rfl | rfl | rfl | rfl <;>
  · simp only [Int.reduceEq, if_true, if_false] at H
    subst H
    go_enter Try.func33, Try.ntmps33
    go_wp2
    go_ret
    exact ⟨rfl, below_alloc (Below.refl _ _) _⟩


end Go.Proofs.Ytdehdhkhcilckaa.PM
