-- made by a program of this session (wip/tools/myprint.py over the kit's print) out of the translation; Lean checks it
import Derived.Test.YtfpkkjcefdighaaPM0
import Derived.Test.YtfpkkjcefdighaaPM3
import Derived.Test.YtfpkkjcefdighaaPM4
namespace Go.Proofs.Ytfpkkjcefdighaa.PM
open Go.RowKit Go.Proofs.YtfpkkjcefdighaaW.PrintWords Go.Proofs.YtfpkkjcefdighaaW.PrintLast Go.Proofs.YtfpkkjcefdighaaW.PrintMore
attribute [local go_sem] max2_int min2_int max_two min_two max_three min_three max_four min_four   -- for this text's walks alone
attribute [local go_sem high] Go.Proofs.Ytfpkkjcefdighaa.My.str_leq Go.Proofs.Ytfpkkjcefdighaa.My.str_gtr Go.Proofs.Ytfpkkjcefdighaa.My.str_geq
set_option linter.unusedVariables false
set_option linter.unusedSimpArgs false

/-! ### key_Prefix: function 10 -/
def key_Prefix.f (a0 : Int) (a1 : ByteArray) : Option (ByteArray × Bool) := (key_letter.f a0).bind fun t102 => (if t102.toList = ([] : List UInt8) then (some ((⟨#[]⟩ : ByteArray), false)) else ((key_Name.f a1).bind fun t103 => (if t103 = true then (if t102.size + 1 ≤ 9223372036854775807 then (if (t102 ++ (⟨#[47]⟩ : ByteArray)).size + a1.size ≤ 9223372036854775807 then (if ((t102 ++ (⟨#[47]⟩ : ByteArray)) ++ a1).size + 1 ≤ 9223372036854775807 then (some (((t102 ++ (⟨#[47]⟩ : ByteArray)) ++ a1) ++ (⟨#[47]⟩ : ByteArray), true)) else (none)) else (none)) else (none)) else (some ((⟨#[]⟩ : ByteArray), false)))))
set_option maxHeartbeats 8000000 in
set_option maxRecDepth 100000 in
theorem key_Prefix.calls (a0 : Int) (a1 : ByteArray) (r1 : ByteArray) (r2 : Bool) (w : World) (h : key_Prefix.f a0 a1 = some (r1, r2)) :
    Calls Try.prog 10 #[.int .i64 a0, .string a1] w fun e w' => e = .returned (.tuple #[.string r1, .bool r2]) ∧ Below w.heap.size w w' := by
  have HB := Aside0.mk (Below.refl w.heap.size w); have H : ((key_letter.f a0).bind fun t102 => (if t102.toList = ([] : List UInt8) then (some ((⟨#[]⟩ : ByteArray), false)) else ((key_Name.f a1).bind fun t103 => (if t103 = true then (if t102.size + 1 ≤ 9223372036854775807 then (if (t102 ++ (⟨#[47]⟩ : ByteArray)).size + a1.size ≤ 9223372036854775807 then (if ((t102 ++ (⟨#[47]⟩ : ByteArray)) ++ a1).size + 1 ≤ 9223372036854775807 then (some (((t102 ++ (⟨#[47]⟩ : ByteArray)) ++ a1) ++ (⟨#[47]⟩ : ByteArray), true)) else (none)) else (none)) else (none)) else (some ((⟨#[]⟩ : ByteArray), false)))))) = some (r1, r2) := h; clear h; replace H := Option.bind_eq_some_iff.mp H; obtain ⟨t102, A30, H⟩ := H; replace H : (if t102.toList = ([] : List UInt8) then (some ((⟨#[]⟩ : ByteArray), false)) else ((key_Name.f a1).bind fun t103 => (if t103 = true then (if t102.size + 1 ≤ 9223372036854775807 then (if (t102 ++ (⟨#[47]⟩ : ByteArray)).size + a1.size ≤ 9223372036854775807 then (if ((t102 ++ (⟨#[47]⟩ : ByteArray)) ++ a1).size + 1 ≤ 9223372036854775807 then (some (((t102 ++ (⟨#[47]⟩ : ByteArray)) ++ a1) ++ (⟨#[47]⟩ : ByteArray), true)) else (none)) else (none)) else (none)) else (some ((⟨#[]⟩ : ByteArray), false))))) = some (r1, r2) := H; have A3 := Aside0.mk A30; clear A30
  by_cases c4 : t102.toList = ([] : List UInt8)
  · rw [if_pos c4] at H
    have c4b0 : (t102.toList == ([] : List UInt8)) = true := beq_iff_eq.mpr c4; have c4b1 : (t102.toList != ([] : List UInt8)) = false := bne_eq_false_iff_eq.mpr c4; clear c4; simp only [Option.some.injEq, Prod.mk.injEq] at H; obtain ⟨rfl, rfl⟩ := H
    go_enter Try.func10, Try.ntmps10
    go_wp2_with (first | ((with_reducible refine gate_callee (f := 24) rfl ?_); refine goesL_ (some 8) rfl rfl Try.func24 (by kernel_rfl) rfl #[.int .i64 a0] rfl My.ar ?_; (with_reducible refine (key_letter.calls a0 t102 _ A3.out).mono ?_); rintro e w5 ⟨rfl, hb⟩; refine ⟨_, rfl, ?_⟩; have n0_ := Aside0.mk (below_step My.bB hb); clear HB; have HB := n0_; clear n0_; (try clear hb); (try clear hb2); (try clear hk); (try clear hi)))
    go_ret2
    exact ⟨My.q1, My.bB⟩
  · rw [if_neg c4] at H
    have c4b0 : (t102.toList == ([] : List UInt8)) = false := beq_eq_false_iff_ne.mpr c4; have c4b1 : (t102.toList != ([] : List UInt8)) = true := bne_iff_ne.mpr c4; replace H := Option.bind_eq_some_iff.mp H; obtain ⟨t103, A60, H⟩ := H; replace H : (if t103 = true then (if t102.size + 1 ≤ 9223372036854775807 then (if (t102 ++ (⟨#[47]⟩ : ByteArray)).size + a1.size ≤ 9223372036854775807 then (if ((t102 ++ (⟨#[47]⟩ : ByteArray)) ++ a1).size + 1 ≤ 9223372036854775807 then (some (((t102 ++ (⟨#[47]⟩ : ByteArray)) ++ a1) ++ (⟨#[47]⟩ : ByteArray), true)) else (none)) else (none)) else (none)) else (some ((⟨#[]⟩ : ByteArray), false))) = some (r1, r2) := H; have A6 := Aside0.mk A60; clear A60
    by_cases c7 : t103 = true
    · subst c7
      (have H1 : (if t102.size + 1 ≤ 9223372036854775807 then (if (t102 ++ (⟨#[47]⟩ : ByteArray)).size + a1.size ≤ 9223372036854775807 then (if ((t102 ++ (⟨#[47]⟩ : ByteArray)) ++ a1).size + 1 ≤ 9223372036854775807 then (some (((t102 ++ (⟨#[47]⟩ : ByteArray)) ++ a1) ++ (⟨#[47]⟩ : ByteArray), true)) else (none)) else (none)) else (none)) = some (r1, r2) := by rw [if_pos rfl] at H; exact H); clear H; have H := H1; clear H1
      by_cases c8 : t102.size + 1 ≤ 9223372036854775807
      · rw [if_pos c8] at H
        have c8b0 := eq_true c8; have c8b1 : decide (t102.size + 1 ≤ 9223372036854775807) = true := decide_eq_true c8; (try have c8b2 : (9223372036854775807 < t102.size + 1) = False := eq_false (Nat.not_lt.2 c8))
        by_cases c9 : (t102 ++ (⟨#[47]⟩ : ByteArray)).size + a1.size ≤ 9223372036854775807
        · rw [if_pos c9] at H
          have c9b0 := eq_true c9; have c9b1 : decide ((t102 ++ (⟨#[47]⟩ : ByteArray)).size + a1.size ≤ 9223372036854775807) = true := decide_eq_true c9; (try have c9b2 : (9223372036854775807 < (t102 ++ (⟨#[47]⟩ : ByteArray)).size + a1.size) = False := eq_false (Nat.not_lt.2 c9)); (try (have c9b5 := c9b2; simp only [ByteArray.size_append, ByteArray.size_extract, My.size_mk, List.size_toArray, List.length_cons, List.length_nil, Nat.zero_add, Nat.reduceAdd] at c9b5)); (try (have c9b6 : (9223372036854775807 < (t102 ++ (⟨#[47]⟩ : ByteArray)).size) = False := eq_false (by have := c9; omega); simp only [ByteArray.size_append, ByteArray.size_extract, My.size_mk, List.size_toArray, List.length_cons, List.length_nil, Nat.zero_add, Nat.reduceAdd] at c9b6))
          by_cases c10 : ((t102 ++ (⟨#[47]⟩ : ByteArray)) ++ a1).size + 1 ≤ 9223372036854775807
          · rw [if_pos c10] at H
            have c10b0 := eq_true c10; have c10b1 : decide (((t102 ++ (⟨#[47]⟩ : ByteArray)) ++ a1).size + 1 ≤ 9223372036854775807) = true := decide_eq_true c10; (try have c10b2 : (9223372036854775807 < ((t102 ++ (⟨#[47]⟩ : ByteArray)) ++ a1).size + 1) = False := eq_false (Nat.not_lt.2 c10)); (try (have c10b5 := c10b2; simp only [ByteArray.size_append, ByteArray.size_extract, My.size_mk, List.size_toArray, List.length_cons, List.length_nil, Nat.zero_add, Nat.reduceAdd] at c10b5)); (try (have c10b6 : (9223372036854775807 < ((t102 ++ (⟨#[47]⟩ : ByteArray)) ++ a1).size) = False := eq_false (by have := c10; omega); simp only [ByteArray.size_append, ByteArray.size_extract, My.size_mk, List.size_toArray, List.length_cons, List.length_nil, Nat.zero_add, Nat.reduceAdd] at c10b6)); simp only [Option.some.injEq, Prod.mk.injEq] at H; obtain ⟨rfl, rfl⟩ := H
            go_enter Try.func10, Try.ntmps10
            go_wp2_with (first | ((with_reducible refine gate_callee (f := 24) rfl ?_); refine goesL_ (some 8) rfl rfl Try.func24 (by kernel_rfl) rfl #[.int .i64 a0] rfl My.ar ?_; (with_reducible refine (key_letter.calls a0 t102 _ A3.out).mono ?_); rintro e w11 ⟨rfl, hb⟩; refine ⟨_, rfl, ?_⟩; have n0_ := Aside0.mk (below_step My.bB hb); clear HB; have HB := n0_; clear n0_; (try clear hb); (try clear hb2); (try clear hk); (try clear hi)) | (go_at_call 18; (with_reducible refine (key_Name.calls a1 true _ A6.out).mono ?_); rintro e w12 ⟨rfl, hb⟩; have n0_ := Aside0.mk (below_step My.bB hb); clear HB; have HB := n0_; clear n0_; (try clear hb); (try clear hb2); (try clear hk); (try clear hi)))
            go_ret2
            exact ⟨My.q1, My.bB⟩
          · exact My.no c10 H
        · exact My.no c9 H
      · exact My.no c8 H
    · replace c7 := Bool.eq_false_iff.mpr c7
      subst c7; (have H1 : (some ((⟨#[]⟩ : ByteArray), false)) = some (r1, r2) := by rw [if_neg (show ¬ (false = true) by decide)] at H; exact H); clear H; have H := H1; clear H1; simp only [Option.some.injEq, Prod.mk.injEq] at H; obtain ⟨rfl, rfl⟩ := H
      go_enter Try.func10, Try.ntmps10
      go_wp2_with (first | ((with_reducible refine gate_callee (f := 24) rfl ?_); refine goesL_ (some 8) rfl rfl Try.func24 (by kernel_rfl) rfl #[.int .i64 a0] rfl My.ar ?_; (with_reducible refine (key_letter.calls a0 t102 _ A3.out).mono ?_); rintro e w13 ⟨rfl, hb⟩; refine ⟨_, rfl, ?_⟩; have n0_ := Aside0.mk (below_step My.bB hb); clear HB; have HB := n0_; clear n0_; (try clear hb); (try clear hb2); (try clear hk); (try clear hi)) | (go_at_call 18; (with_reducible refine (key_Name.calls a1 false _ A6.out).mono ?_); rintro e w14 ⟨rfl, hb⟩; have n0_ := Aside0.mk (below_step My.bB hb); clear HB; have HB := n0_; clear n0_; (try clear hb); (try clear hb2); (try clear hk); (try clear hi)))
      go_ret2
      exact ⟨My.q1, My.bB⟩

end Go.Proofs.Ytfpkkjcefdighaa.PM
