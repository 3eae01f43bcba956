-- made by a program of this session (wip/tools/myprint.py over the kit's print) out of the translation; Lean checks it
import Derived.Test.YtfpkkjcefdighaaPM0
import Derived.Test.YtfpkkjcefdighaaPM5
namespace Go.Proofs.Ytfpkkjcefdighaa.PM
open Go.RowKit Go.Proofs.YtfpkkjcefdighaaW.PrintWords Go.Proofs.YtfpkkjcefdighaaW.PrintLast Go.Proofs.YtfpkkjcefdighaaW.PrintMore
attribute [local go_sem] max2_int min2_int max_two min_two max_three min_three max_four min_four   -- for this text's walks alone
attribute [local go_sem high] Go.Proofs.Ytfpkkjcefdighaa.My.str_leq Go.Proofs.Ytfpkkjcefdighaa.My.str_gtr Go.Proofs.Ytfpkkjcefdighaa.My.str_geq
set_option linter.unusedVariables false
set_option linter.unusedSimpArgs false

/-! ### key_Flag: function 14 -/
def key_Flag.f (a0 : ByteArray) : Option (ByteArray × Bool) := (key_Prefix.f 6 a0).bind fun bt104 => (if bt104.2 = true then (if bt104.1.size + 4 ≤ 9223372036854775807 then (some (bt104.1 ++ (⟨#[111, 112, 101, 110]⟩ : ByteArray), true)) else (none)) else (some ((⟨#[]⟩ : ByteArray), false)))
set_option maxHeartbeats 8000000 in
set_option maxRecDepth 100000 in
theorem key_Flag.calls (a0 : ByteArray) (r1 : ByteArray) (r2 : Bool) (w : World) (h : key_Flag.f a0 = some (r1, r2)) :
    Calls Try.prog 14 #[.string a0] w fun e w' => e = .returned (.tuple #[.string r1, .bool r2]) ∧ Below w.heap.size w w' := by
  have HB := Aside0.mk (Below.refl w.heap.size w); have H : ((key_Prefix.f 6 a0).bind fun bt104 => (if bt104.2 = true then (if bt104.1.size + 4 ≤ 9223372036854775807 then (some (bt104.1 ++ (⟨#[111, 112, 101, 110]⟩ : ByteArray), true)) else (none)) else (some ((⟨#[]⟩ : ByteArray), false)))) = some (r1, r2) := h; clear h; replace H := Option.bind_eq_some_iff.mp H; obtain ⟨⟨t104, t105⟩, A20, H⟩ := H; replace H : (if t105 = true then (if t104.size + 4 ≤ 9223372036854775807 then (some (t104 ++ (⟨#[111, 112, 101, 110]⟩ : ByteArray), true)) else (none)) else (some ((⟨#[]⟩ : ByteArray), false))) = some (r1, r2) := H; have A2 := Aside0.mk A20; clear A20
  by_cases c3 : t105 = true
  · subst c3
    (have H1 : (if t104.size + 4 ≤ 9223372036854775807 then (some (t104 ++ (⟨#[111, 112, 101, 110]⟩ : ByteArray), true)) else (none)) = some (r1, r2) := by rw [if_pos rfl] at H; exact H); clear H; have H := H1; clear H1
    by_cases c4 : t104.size + 4 ≤ 9223372036854775807
    · rw [if_pos c4] at H
      have c4b0 := eq_true c4; have c4b1 : decide (t104.size + 4 ≤ 9223372036854775807) = true := decide_eq_true c4; (try have c4b2 : (9223372036854775807 < t104.size + 4) = False := eq_false (Nat.not_lt.2 c4)); simp only [Option.some.injEq, Prod.mk.injEq] at H; obtain ⟨rfl, rfl⟩ := H
      go_enter Try.func14, Try.ntmps14
      go_wp2_with (first | ((with_reducible refine gate_callee (f := 10) rfl ?_); refine goesL_ (some 8) rfl rfl Try.func10 (by kernel_rfl) rfl #[.int .i64 6, .string a0] rfl My.ar ?_; (with_reducible refine (key_Prefix.calls 6 a0 t104 true _ A2.out).mono ?_); rintro e w5 ⟨rfl, hb⟩; refine ⟨_, rfl, ?_⟩; have n0_ := Aside0.mk (below_step My.bB hb); clear HB; have HB := n0_; clear n0_; (try clear hb); (try clear hb2); (try clear hk); (try clear hi)))
      go_ret2
      exact ⟨My.q1, My.bB⟩
    · exact My.no c4 H
  · replace c3 := Bool.eq_false_iff.mpr c3
    subst c3; (have H1 : (some ((⟨#[]⟩ : ByteArray), false)) = some (r1, r2) := by rw [if_neg (show ¬ (false = true) by decide)] at H; exact H); clear H; have H := H1; clear H1; simp only [Option.some.injEq, Prod.mk.injEq] at H; obtain ⟨rfl, rfl⟩ := H
    go_enter Try.func14, Try.ntmps14
    go_wp2_with (first | ((with_reducible refine gate_callee (f := 10) rfl ?_); refine goesL_ (some 8) rfl rfl Try.func10 (by kernel_rfl) rfl #[.int .i64 6, .string a0] rfl My.ar ?_; (with_reducible refine (key_Prefix.calls 6 a0 t104 false _ A2.out).mono ?_); rintro e w6 ⟨rfl, hb⟩; refine ⟨_, rfl, ?_⟩; have n0_ := Aside0.mk (below_step My.bB hb); clear HB; have HB := n0_; clear n0_; (try clear hb); (try clear hb2); (try clear hk); (try clear hi)))
    go_ret2
    exact ⟨My.q1, My.bB⟩

/-! ### key_Check_1: function 26 -/
def key_Check_1.f (a0 : Int) : Option (Bool) := if a0 > 32 then (some (decide (a0 ≤ 126))) else (some false)
set_option maxHeartbeats 8000000 in
set_option maxRecDepth 100000 in
theorem key_Check_1.calls (a0 : Int) (r : Bool) (w : World) (h : key_Check_1.f a0 = some r) :
    Calls Try.prog 26 #[.int .u8 a0] w fun e w' => e = .returned (.bool r) ∧ Drawn0 w w' := by
  have H : (if a0 > 32 then (some (decide (a0 ≤ 126))) else (some false)) = some r := h; clear h
  by_cases c2 : a0 > 32
  · rw [if_pos c2] at H
    have c2b0 := decide_eq_true c2; clear c2; obtain rfl := Option.some.inj H
    go_enter Try.func26, Try.ntmps26
    go_wp2
    go_ret
    exact ⟨My.q0, My.dD⟩
  · rw [if_neg c2] at H
    have c2b0 := decide_eq_false c2; clear c2; obtain rfl := Option.some.inj H
    go_enter Try.func26, Try.ntmps26
    go_wp2
    go_ret
    exact ⟨My.q0, My.dD⟩

end Go.Proofs.Ytfpkkjcefdighaa.PM
