-- made by a program of this session (wip/tools/myprint.py over the kit's print) out of the translation; Lean checks it
import Derived.Test.YtdehdhkhcilckaaPM0
import Derived.Test.YtdehdhkhcilckaaPM22
namespace Go.Proofs.Ytdehdhkhcilckaa.PM
open Go.RowKit Go.Proofs.YtdehdhkhcilckaaW.PrintWords Go.Proofs.YtdehdhkhcilckaaW.PrintLast Go.Proofs.YtdehdhkhcilckaaW.PrintMore
attribute [local go_sem] max2_int min2_int max_two min_two max_three min_three max_four min_four   -- for this text's walks alone
attribute [local go_sem high] Go.Proofs.Ytdehdhkhcilckaa.My.str_leq Go.Proofs.Ytdehdhkhcilckaa.My.str_gtr Go.Proofs.Ytdehdhkhcilckaa.My.str_geq
set_option linter.unusedVariables false
set_option linter.unusedSimpArgs false

/-! ### batonref02_Prefix: function 20 -/
mutual
def batonref02_Prefix.j0 : Nat → ByteArray → ByteArray → Int → Bool → Option (ByteArray × Bool)
 | 0, _, _, _, _ => none
 | k + 1, x1, x6, x7, x10 => if x10 = true then (if ([108] : List UInt8) = ([] : List UInt8) then (some ((⟨#[]⟩ : ByteArray), false)) else ((batonref02_Name.f k x1).bind fun t495 => (if t495 = true then (if 1 + 1 ≤ 9223372036854775807 then (if 1 + x1.size ≤ 9223372036854775807 then (if (((⟨#[108]⟩ : ByteArray) ++ (⟨#[47]⟩ : ByteArray)) ++ x1).size + 1 ≤ 9223372036854775807 then (some ((((⟨#[108]⟩ : ByteArray) ++ (⟨#[47]⟩ : ByteArray)) ++ x1) ++ (⟨#[47]⟩ : ByteArray), true)) else (none)) else (none)) else (none)) else (some ((⟨#[]⟩ : ByteArray), false))))) else (if x7 = 4 then (if ([115] : List UInt8) = ([] : List UInt8) then (some ((⟨#[]⟩ : ByteArray), false)) else ((batonref02_Name.f k x1).bind fun t496 => (if t496 = true then (if 1 + 1 ≤ 9223372036854775807 then (if 1 + x1.size ≤ 9223372036854775807 then (if (((⟨#[115]⟩ : ByteArray) ++ (⟨#[47]⟩ : ByteArray)) ++ x1).size + 1 ≤ 9223372036854775807 then (some ((((⟨#[115]⟩ : ByteArray) ++ (⟨#[47]⟩ : ByteArray)) ++ x1) ++ (⟨#[47]⟩ : ByteArray), true)) else (none)) else (none)) else (none)) else (some ((⟨#[]⟩ : ByteArray), false))))) else (if x7 = 5 then (if ([101] : List UInt8) = ([] : List UInt8) then (some ((⟨#[]⟩ : ByteArray), false)) else ((batonref02_Name.f k x1).bind fun t497 => (if t497 = true then (if 1 + 1 ≤ 9223372036854775807 then (if 1 + x1.size ≤ 9223372036854775807 then (if (((⟨#[101]⟩ : ByteArray) ++ (⟨#[47]⟩ : ByteArray)) ++ x1).size + 1 ≤ 9223372036854775807 then (some ((((⟨#[101]⟩ : ByteArray) ++ (⟨#[47]⟩ : ByteArray)) ++ x1) ++ (⟨#[47]⟩ : ByteArray), true)) else (none)) else (none)) else (none)) else (some ((⟨#[]⟩ : ByteArray), false))))) else (if x7 = 6 then (if ([112] : List UInt8) = ([] : List UInt8) then (some ((⟨#[]⟩ : ByteArray), false)) else ((batonref02_Name.f k x1).bind fun t498 => (if t498 = true then (if 1 + 1 ≤ 9223372036854775807 then (if 1 + x1.size ≤ 9223372036854775807 then (if (((⟨#[112]⟩ : ByteArray) ++ (⟨#[47]⟩ : ByteArray)) ++ x1).size + 1 ≤ 9223372036854775807 then (some ((((⟨#[112]⟩ : ByteArray) ++ (⟨#[47]⟩ : ByteArray)) ++ x1) ++ (⟨#[47]⟩ : ByteArray), true)) else (none)) else (none)) else (none)) else (some ((⟨#[]⟩ : ByteArray), false))))) else (if x7 = 7 then (batonref02_Prefix.j1 k x1 x6 (x7 == 7)) else (batonref02_Prefix.j1 k x1 x6 (x7 == 8))))))
def batonref02_Prefix.j1 : Nat → ByteArray → ByteArray → Bool → Option (ByteArray × Bool)
 | 0, _, _, _ => none
 | k + 1, x1, x6, x19 => if x19 = true then (if ([113] : List UInt8) = ([] : List UInt8) then (some ((⟨#[]⟩ : ByteArray), false)) else ((batonref02_Name.f k x1).bind fun t499 => (if t499 = true then (if 1 + 1 ≤ 9223372036854775807 then (if 1 + x1.size ≤ 9223372036854775807 then (if (((⟨#[113]⟩ : ByteArray) ++ (⟨#[47]⟩ : ByteArray)) ++ x1).size + 1 ≤ 9223372036854775807 then (some ((((⟨#[113]⟩ : ByteArray) ++ (⟨#[47]⟩ : ByteArray)) ++ x1) ++ (⟨#[47]⟩ : ByteArray), true)) else (none)) else (none)) else (none)) else (some ((⟨#[]⟩ : ByteArray), false))))) else (if x6.toList = ([] : List UInt8) then (some ((⟨#[]⟩ : ByteArray), false)) else ((batonref02_Name.f k x1).bind fun t500 => (if t500 = true then (if x6.size + 1 ≤ 9223372036854775807 then (if (x6 ++ (⟨#[47]⟩ : ByteArray)).size + x1.size ≤ 9223372036854775807 then (if ((x6 ++ (⟨#[47]⟩ : ByteArray)) ++ x1).size + 1 ≤ 9223372036854775807 then (some (((x6 ++ (⟨#[47]⟩ : ByteArray)) ++ x1) ++ (⟨#[47]⟩ : ByteArray), true)) else (none)) else (none)) else (none)) else (some ((⟨#[]⟩ : ByteArray), false)))))
end
def batonref02_Prefix.f (k : Nat) (a0 : Int) (a1 : ByteArray) : Option (ByteArray × Bool) := if a0 = 1 then (if ([109] : List UInt8) = ([] : List UInt8) then (some ((⟨#[]⟩ : ByteArray), false)) else ((batonref02_Name.f k a1).bind fun t494 => (if t494 = true then (if 1 + 1 ≤ 9223372036854775807 then (if 1 + a1.size ≤ 9223372036854775807 then (if (((⟨#[109]⟩ : ByteArray) ++ (⟨#[47]⟩ : ByteArray)) ++ a1).size + 1 ≤ 9223372036854775807 then (some ((((⟨#[109]⟩ : ByteArray) ++ (⟨#[47]⟩ : ByteArray)) ++ a1) ++ (⟨#[47]⟩ : ByteArray), true)) else (none)) else (none)) else (none)) else (some ((⟨#[]⟩ : ByteArray), false))))) else (if a0 = 2 then (batonref02_Prefix.j0 k a1 (⟨#[]⟩ : ByteArray) a0 (a0 == 2)) else (batonref02_Prefix.j0 k a1 (⟨#[]⟩ : ByteArray) a0 (a0 == 3)))
theorem batonref02_Prefix.mono_l : ∀ k, (∀ y0 y1 y2 y3, LeO (batonref02_Prefix.j0 k y0 y1 y2 y3) (batonref02_Prefix.j0 (k + 1) y0 y1 y2 y3)) ∧ (∀ y0 y1 y2, LeO (batonref02_Prefix.j1 k y0 y1 y2) (batonref02_Prefix.j1 (k + 1) y0 y1 y2))
 | 0 => ⟨fun _ _ _ _ r h => by simp [batonref02_Prefix.j0] at h, fun _ _ _ r h => by simp [batonref02_Prefix.j1] at h⟩
 | k + 1 => by
  obtain ⟨ih0, ih1⟩ := batonref02_Prefix.mono_l k
  refine ⟨?_, ?_⟩
  ·intro y0 y1 y2 y3
   unfold batonref02_Prefix.j0
   have ic0 := @batonref02_Name.mono; exact My.mono_
  ·intro y0 y1 y2
   unfold batonref02_Prefix.j1
   have ic0 := @batonref02_Name.mono; exact My.mono_
theorem batonref02_Prefix.mono : ∀ a0 a1 k, LeO (batonref02_Prefix.f k a0 a1) (batonref02_Prefix.f (k + 1) a0 a1) := by
 intro a0 a1 k
 obtain ⟨ih0, ih1⟩ := batonref02_Prefix.mono_l k
 unfold batonref02_Prefix.f
 have ic0 := @batonref02_Name.mono; exact My.mono_
set_option maxHeartbeats 80000000 in
set_option maxRecDepth 100000 in
theorem batonref02_Prefix.calls (k : Nat) (a0 : Int) (a1 : ByteArray) (r1 : ByteArray) (r2 : Bool) (w : World) (h : batonref02_Prefix.f k a0 a1 = some (r1, r2)) :
  Calls Try.prog 20 #[.int .i64 a0, .string a1] w fun e w' => e = .returned (.tuple #[.string r1, .bool r2]) ∧ Drawn0 w w' := by
 have H : (if a0 = 1 then (if ([109] : List UInt8) = ([] : List UInt8) then (some ((⟨#[]⟩ : ByteArray), false)) else ((batonref02_Name.f k a1).bind fun t494 => (if t494 = true then (if 1 + 1 ≤ 9223372036854775807 then (if 1 + a1.size ≤ 9223372036854775807 then (if (((⟨#[109]⟩ : ByteArray) ++ (⟨#[47]⟩ : ByteArray)) ++ a1).size + 1 ≤ 9223372036854775807 then (some ((((⟨#[109]⟩ : ByteArray) ++ (⟨#[47]⟩ : ByteArray)) ++ a1) ++ (⟨#[47]⟩ : ByteArray), true)) else (none)) else (none)) else (none)) else (some ((⟨#[]⟩ : ByteArray), false))))) else (if a0 = 2 then (batonref02_Prefix.j0 k a1 (⟨#[]⟩ : ByteArray) a0 (a0 == 2)) else (batonref02_Prefix.j0 k a1 (⟨#[]⟩ : ByteArray) a0 (a0 == 3)))) = some (r1, r2) := h; clear h
 by_cases c3 : a0 = 1
 ·rw [if_pos c3] at H
  have c3b0 : (a0 == 1) = true := beq_iff_eq.mpr c3; have c3b1 : (a0 != 1) = false := bne_eq_false_iff_eq.mpr c3; clear c3
  by_cases c4 : ([109] : List UInt8) = ([] : List UInt8)
  ·rw [if_pos c4] at H
   have c4b0 : (([109] : List UInt8) == ([] : List UInt8)) = true := beq_iff_eq.mpr c4; have c4b1 : (([109] : List UInt8) != ([] : List UInt8)) = false := bne_eq_false_iff_eq.mpr c4; clear c4; simp only [Option.some.injEq, Prod.mk.injEq] at H; obtain ⟨rfl, rfl⟩ := H
   go_enter Try.func20, Try.ntmps20
   go_wp2
   go_ret2
   exact ⟨by first | rfl | (simp; done) | (simp [*]; done) | exact absurd (by first | rfl | simp | decide +kernel) c49, My.dD⟩
  ·rw [if_neg c4] at H
   have c4b0 : (([109] : List UInt8) == ([] : List UInt8)) = false := beq_eq_false_iff_ne.mpr c4; have c4b1 : (([109] : List UInt8) != ([] : List UInt8)) = true := bne_iff_ne.mpr c4; replace H := Option.bind_eq_some_iff.mp H; obtain ⟨t494, A50, H⟩ := H; have A5 := Aside0.mk A50; clear A50
   by_cases c6 : t494 = true
   ·subst c6
    rw [if_pos rfl] at H
    by_cases c7 : 1 + 1 ≤ 9223372036854775807
    ·rw [if_pos c7] at H
     have c7b0 := eq_true c7; have c7b1 : decide (1 + 1 ≤ 9223372036854775807) = true := decide_eq_true c7; (try have c7b2 : (9223372036854775807 < 1 + 1) = False := eq_false (Nat.not_lt.2 c7))
     by_cases c8 : 1 + a1.size ≤ 9223372036854775807
     ·rw [if_pos c8] at H
      have c8b0 := eq_true c8; have c8b1 : decide (1 + a1.size ≤ 9223372036854775807) = true := decide_eq_true c8; (try have c8b2 : (9223372036854775807 < 1 + a1.size) = False := eq_false (Nat.not_lt.2 c8))
      by_cases c9 : (((⟨#[109]⟩ : ByteArray) ++ (⟨#[47]⟩ : ByteArray)) ++ a1).size + 1 ≤ 9223372036854775807
      ·rw [if_pos c9] at H
       have c9b0 := eq_true c9; have c9b1 : decide ((((⟨#[109]⟩ : ByteArray) ++ (⟨#[47]⟩ : ByteArray)) ++ a1).size + 1 ≤ 9223372036854775807) = true := decide_eq_true c9; (try have c9b2 : (9223372036854775807 < (((⟨#[109]⟩ : ByteArray) ++ (⟨#[47]⟩ : ByteArray)) ++ a1).size + 1) = False := eq_false (Nat.not_lt.2 c9)); (try (have c9b5 := c9b2; simp only [ByteArray.size_append, ByteArray.size_extract, My.size_mk, List.size_toArray, List.length_cons, List.length_nil, Nat.zero_add, Nat.reduceAdd] at c9b5)); (try (have c9b6 : (9223372036854775807 < (((⟨#[109]⟩ : ByteArray) ++ (⟨#[47]⟩ : ByteArray)) ++ a1).size) = False := eq_false (by have := c9; omega); simp only [ByteArray.size_append, ByteArray.size_extract, My.size_mk, List.size_toArray, List.length_cons, List.length_nil, Nat.zero_add, Nat.reduceAdd] at c9b6)); simp only [Option.some.injEq, Prod.mk.injEq] at H; obtain ⟨rfl, rfl⟩ := H
       go_enter Try.func20, Try.ntmps20
       go_wp2_with (first | (go_at_call 18; (with_reducible refine (batonref02_Name.calls k a1 true _ A5.out).mono ?_); rintro e w' ⟨rfl, ⟨nd, rfl⟩⟩))
       go_ret2
       exact ⟨by first | rfl | (simp; done) | (simp [*]; done) | exact absurd (by first | rfl | simp | decide +kernel) c49, My.dD⟩
      ·exact My.no c9 H
     ·exact My.no c8 H
    ·exact My.no c7 H
   ·replace c6 := Bool.eq_false_iff.mpr c6
    subst c6; rw [if_neg (show ¬ (false = true) by decide)] at H; simp only [Option.some.injEq, Prod.mk.injEq] at H; obtain ⟨rfl, rfl⟩ := H
    go_enter Try.func20, Try.ntmps20
    go_wp2_with (first | (go_at_call 18; (with_reducible refine (batonref02_Name.calls k a1 false _ A5.out).mono ?_); rintro e w' ⟨rfl, ⟨nd, rfl⟩⟩))
    go_ret2
    exact ⟨by first | rfl | (simp; done) | (simp [*]; done) | exact absurd (by first | rfl | simp | decide +kernel) c49, My.dD⟩
 ·rw [if_neg c3] at H
  have c3b0 : (a0 == 1) = false := beq_eq_false_iff_ne.mpr c3; have c3b1 : (a0 != 1) = true := bne_iff_ne.mpr c3; have HC10 := Aside0.mk H; clear H
  go_enter Try.func20, Try.ntmps20
  go_upto_if 10 with (fail)
  go_cut [10] (fun v10 wc => ∃ (kq : Nat) (x10_9 : Bool), v10 = .bool x10_9 ∧ Aside0 (batonref02_Prefix.j0 kq a1 (⟨#[]⟩ : ByteArray) a0 x10_9 = some (r1, r2)) ∧ Aside0 (kq ≤ k) ∧ Drawn0 w wc)
  case first =>
   have H := HC10.out; clear HC10
   by_cases c11 : a0 = 2
   ·rw [if_pos c11] at H
    have c11b0 : (a0 == 2) = true := beq_iff_eq.mpr c11; have c11b1 : (a0 != 2) = false := bne_eq_false_iff_eq.mpr c11; clear c11; (first | rw [c11b0] | (simp only [i64_w, i32_w]; rw [c11b0]) | skip); have H' := Aside0.mk H; clear H
    go_wp2
    go_meet
    case rel => exact ⟨_, ((a0 == 2)), My.q0, H', ⟨by first | omega | exact Nat.le_refl _⟩, My.dD⟩
   ·rw [if_neg c11] at H
    have c11b0 : (a0 == 2) = false := beq_eq_false_iff_ne.mpr c11; have c11b1 : (a0 != 2) = true := bne_iff_ne.mpr c11; (first | rw [c11b0] | (simp only [i64_w, i32_w]; rw [c11b0]) | skip); have H' := Aside0.mk H; clear H
    go_wp2
    go_meet
    case rel => exact ⟨_, ((a0 == 3)), My.q0, H', ⟨by first | omega | exact Nat.le_refl _⟩, My.dD⟩
  case rest =>
   clear HC10; (try clear c1); (try clear c2); (try clear p2); (try clear c3); (try clear c3b0); (try clear c3b1); (try clear c4); (try clear c4b0); (try clear c4b1); (try clear c6); (try clear c7); (try clear c7b0); (try clear c7b1); (try clear c7b2); (try clear c8); (try clear c8b0); (try clear c8b1); (try clear c8b2); (try clear c9); (try clear c9b0); (try clear c9b1); (try clear c9b2); (try clear c11); (try clear c11b0); (try clear c11b1); obtain ⟨kq, x10_9, rfl, HA, HJ9, ⟨mc9, rfl⟩⟩ := hcut
   cases kq with
   | zero => exact absurd HA.out (by simp [batonref02_Prefix.j0])
   | succ kj9 =>
    have H := HA.out; clear HA; simp only [batonref02_Prefix.j0] at H
    by_cases c12 : x10_9 = true
    ·subst c12
     rw [if_pos rfl] at H
     by_cases c13 : ([108] : List UInt8) = ([] : List UInt8)
     ·rw [if_pos c13] at H
      have c13b0 : (([108] : List UInt8) == ([] : List UInt8)) = true := beq_iff_eq.mpr c13; have c13b1 : (([108] : List UInt8) != ([] : List UInt8)) = false := bne_eq_false_iff_eq.mpr c13; clear c13; simp only [Option.some.injEq, Prod.mk.injEq] at H; obtain ⟨rfl, rfl⟩ := H
      go_wp2
      go_ret2
      exact ⟨by first | rfl | (simp; done) | (simp [*]; done) | exact absurd (by first | rfl | simp | decide +kernel) c49, My.dD⟩
     ·rw [if_neg c13] at H
      have c13b0 : (([108] : List UInt8) == ([] : List UInt8)) = false := beq_eq_false_iff_ne.mpr c13; have c13b1 : (([108] : List UInt8) != ([] : List UInt8)) = true := bne_iff_ne.mpr c13; replace H := Option.bind_eq_some_iff.mp H; obtain ⟨t495, A140, H⟩ := H; have A14 := Aside0.mk A140; clear A140
      by_cases c15 : t495 = true
      ·subst c15
       rw [if_pos rfl] at H
       by_cases c16 : 1 + 1 ≤ 9223372036854775807
       ·rw [if_pos c16] at H
        have c16b0 := eq_true c16; have c16b1 : decide (1 + 1 ≤ 9223372036854775807) = true := decide_eq_true c16; (try have c16b2 : (9223372036854775807 < 1 + 1) = False := eq_false (Nat.not_lt.2 c16))
        by_cases c17 : 1 + a1.size ≤ 9223372036854775807
        ·rw [if_pos c17] at H
         have c17b0 := eq_true c17; have c17b1 : decide (1 + a1.size ≤ 9223372036854775807) = true := decide_eq_true c17; (try have c17b2 : (9223372036854775807 < 1 + a1.size) = False := eq_false (Nat.not_lt.2 c17))
         by_cases c18 : (((⟨#[108]⟩ : ByteArray) ++ (⟨#[47]⟩ : ByteArray)) ++ a1).size + 1 ≤ 9223372036854775807
         ·rw [if_pos c18] at H
          have c18b0 := eq_true c18; have c18b1 : decide ((((⟨#[108]⟩ : ByteArray) ++ (⟨#[47]⟩ : ByteArray)) ++ a1).size + 1 ≤ 9223372036854775807) = true := decide_eq_true c18; (try have c18b2 : (9223372036854775807 < (((⟨#[108]⟩ : ByteArray) ++ (⟨#[47]⟩ : ByteArray)) ++ a1).size + 1) = False := eq_false (Nat.not_lt.2 c18)); (try (have c18b5 := c18b2; simp only [ByteArray.size_append, ByteArray.size_extract, My.size_mk, List.size_toArray, List.length_cons, List.length_nil, Nat.zero_add, Nat.reduceAdd] at c18b5)); (try (have c18b6 : (9223372036854775807 < (((⟨#[108]⟩ : ByteArray) ++ (⟨#[47]⟩ : ByteArray)) ++ a1).size) = False := eq_false (by have := c18; omega); simp only [ByteArray.size_append, ByteArray.size_extract, My.size_mk, List.size_toArray, List.length_cons, List.length_nil, Nat.zero_add, Nat.reduceAdd] at c18b6)); simp only [Option.some.injEq, Prod.mk.injEq] at H; obtain ⟨rfl, rfl⟩ := H
          go_wp2_with (first | (go_at_call 18; (with_reducible refine (batonref02_Name.calls kj9 a1 true _ A14.out).mono ?_); rintro e w' ⟨rfl, ⟨nd, rfl⟩⟩))
          go_ret2
          exact ⟨by first | rfl | (simp; done) | (simp [*]; done) | exact absurd (by first | rfl | simp | decide +kernel) c49, My.dD⟩
         ·exact My.no c18 H
        ·exact My.no c17 H
       ·exact My.no c16 H
      ·replace c15 := Bool.eq_false_iff.mpr c15
       subst c15; rw [if_neg (show ¬ (false = true) by decide)] at H; simp only [Option.some.injEq, Prod.mk.injEq] at H; obtain ⟨rfl, rfl⟩ := H
       go_wp2_with (first | (go_at_call 18; (with_reducible refine (batonref02_Name.calls kj9 a1 false _ A14.out).mono ?_); rintro e w' ⟨rfl, ⟨nd, rfl⟩⟩))
       go_ret2
       exact ⟨by first | rfl | (simp; done) | (simp [*]; done) | exact absurd (by first | rfl | simp | decide +kernel) c49, My.dD⟩
    ·replace c12 := Bool.eq_false_iff.mpr c12
     subst c12; rw [if_neg (show ¬ (false = true) by decide)] at H
     by_cases c19 : a0 = 4
     ·rw [if_pos c19] at H
      have c19b0 : (a0 == 4) = true := beq_iff_eq.mpr c19; have c19b1 : (a0 != 4) = false := bne_eq_false_iff_eq.mpr c19; clear c19
      by_cases c20 : ([115] : List UInt8) = ([] : List UInt8)
      ·rw [if_pos c20] at H
       have c20b0 : (([115] : List UInt8) == ([] : List UInt8)) = true := beq_iff_eq.mpr c20; have c20b1 : (([115] : List UInt8) != ([] : List UInt8)) = false := bne_eq_false_iff_eq.mpr c20; clear c20; simp only [Option.some.injEq, Prod.mk.injEq] at H; obtain ⟨rfl, rfl⟩ := H
       go_wp2
       go_ret2
       exact ⟨by first | rfl | (simp; done) | (simp [*]; done) | exact absurd (by first | rfl | simp | decide +kernel) c49, My.dD⟩
      ·rw [if_neg c20] at H
       have c20b0 : (([115] : List UInt8) == ([] : List UInt8)) = false := beq_eq_false_iff_ne.mpr c20; have c20b1 : (([115] : List UInt8) != ([] : List UInt8)) = true := bne_iff_ne.mpr c20; replace H := Option.bind_eq_some_iff.mp H; obtain ⟨t496, A210, H⟩ := H; have A21 := Aside0.mk A210; clear A210
       by_cases c22 : t496 = true
       ·subst c22
        rw [if_pos rfl] at H
        by_cases c23 : 1 + 1 ≤ 9223372036854775807
        ·rw [if_pos c23] at H
         have c23b0 := eq_true c23; have c23b1 : decide (1 + 1 ≤ 9223372036854775807) = true := decide_eq_true c23; (try have c23b2 : (9223372036854775807 < 1 + 1) = False := eq_false (Nat.not_lt.2 c23))
         by_cases c24 : 1 + a1.size ≤ 9223372036854775807
         ·rw [if_pos c24] at H
          have c24b0 := eq_true c24; have c24b1 : decide (1 + a1.size ≤ 9223372036854775807) = true := decide_eq_true c24; (try have c24b2 : (9223372036854775807 < 1 + a1.size) = False := eq_false (Nat.not_lt.2 c24))
          by_cases c25 : (((⟨#[115]⟩ : ByteArray) ++ (⟨#[47]⟩ : ByteArray)) ++ a1).size + 1 ≤ 9223372036854775807
          ·rw [if_pos c25] at H
           have c25b0 := eq_true c25; have c25b1 : decide ((((⟨#[115]⟩ : ByteArray) ++ (⟨#[47]⟩ : ByteArray)) ++ a1).size + 1 ≤ 9223372036854775807) = true := decide_eq_true c25; (try have c25b2 : (9223372036854775807 < (((⟨#[115]⟩ : ByteArray) ++ (⟨#[47]⟩ : ByteArray)) ++ a1).size + 1) = False := eq_false (Nat.not_lt.2 c25)); (try (have c25b5 := c25b2; simp only [ByteArray.size_append, ByteArray.size_extract, My.size_mk, List.size_toArray, List.length_cons, List.length_nil, Nat.zero_add, Nat.reduceAdd] at c25b5)); (try (have c25b6 : (9223372036854775807 < (((⟨#[115]⟩ : ByteArray) ++ (⟨#[47]⟩ : ByteArray)) ++ a1).size) = False := eq_false (by have := c25; omega); simp only [ByteArray.size_append, ByteArray.size_extract, My.size_mk, List.size_toArray, List.length_cons, List.length_nil, Nat.zero_add, Nat.reduceAdd] at c25b6)); simp only [Option.some.injEq, Prod.mk.injEq] at H; obtain ⟨rfl, rfl⟩ := H
           go_wp2_with (first | (go_at_call 18; (with_reducible refine (batonref02_Name.calls kj9 a1 true _ A21.out).mono ?_); rintro e w' ⟨rfl, ⟨nd, rfl⟩⟩))
           go_ret2
           exact ⟨by first | rfl | (simp; done) | (simp [*]; done) | exact absurd (by first | rfl | simp | decide +kernel) c49, My.dD⟩
          ·exact My.no c25 H
         ·exact My.no c24 H
        ·exact My.no c23 H
       ·replace c22 := Bool.eq_false_iff.mpr c22
        subst c22; rw [if_neg (show ¬ (false = true) by decide)] at H; simp only [Option.some.injEq, Prod.mk.injEq] at H; obtain ⟨rfl, rfl⟩ := H
        go_wp2_with (first | (go_at_call 18; (with_reducible refine (batonref02_Name.calls kj9 a1 false _ A21.out).mono ?_); rintro e w' ⟨rfl, ⟨nd, rfl⟩⟩))
        go_ret2
        exact ⟨by first | rfl | (simp; done) | (simp [*]; done) | exact absurd (by first | rfl | simp | decide +kernel) c49, My.dD⟩
     ·rw [if_neg c19] at H
      have c19b0 : (a0 == 4) = false := beq_eq_false_iff_ne.mpr c19; have c19b1 : (a0 != 4) = true := bne_iff_ne.mpr c19
      by_cases c26 : a0 = 5
      ·rw [if_pos c26] at H
       have c26b0 : (a0 == 5) = true := beq_iff_eq.mpr c26; have c26b1 : (a0 != 5) = false := bne_eq_false_iff_eq.mpr c26; clear c26
       by_cases c27 : ([101] : List UInt8) = ([] : List UInt8)
       ·rw [if_pos c27] at H
        have c27b0 : (([101] : List UInt8) == ([] : List UInt8)) = true := beq_iff_eq.mpr c27; have c27b1 : (([101] : List UInt8) != ([] : List UInt8)) = false := bne_eq_false_iff_eq.mpr c27; clear c27; simp only [Option.some.injEq, Prod.mk.injEq] at H; obtain ⟨rfl, rfl⟩ := H
        go_wp2
        go_ret2
        exact ⟨by first | rfl | (simp; done) | (simp [*]; done) | exact absurd (by first | rfl | simp | decide +kernel) c49, My.dD⟩
       ·rw [if_neg c27] at H
        have c27b0 : (([101] : List UInt8) == ([] : List UInt8)) = false := beq_eq_false_iff_ne.mpr c27; have c27b1 : (([101] : List UInt8) != ([] : List UInt8)) = true := bne_iff_ne.mpr c27; replace H := Option.bind_eq_some_iff.mp H; obtain ⟨t497, A280, H⟩ := H; have A28 := Aside0.mk A280; clear A280
        by_cases c29 : t497 = true
        ·subst c29
         rw [if_pos rfl] at H
         by_cases c30 : 1 + 1 ≤ 9223372036854775807
         ·rw [if_pos c30] at H
          have c30b0 := eq_true c30; have c30b1 : decide (1 + 1 ≤ 9223372036854775807) = true := decide_eq_true c30; (try have c30b2 : (9223372036854775807 < 1 + 1) = False := eq_false (Nat.not_lt.2 c30))
          by_cases c31 : 1 + a1.size ≤ 9223372036854775807
          ·rw [if_pos c31] at H
           have c31b0 := eq_true c31; have c31b1 : decide (1 + a1.size ≤ 9223372036854775807) = true := decide_eq_true c31; (try have c31b2 : (9223372036854775807 < 1 + a1.size) = False := eq_false (Nat.not_lt.2 c31))
           by_cases c32 : (((⟨#[101]⟩ : ByteArray) ++ (⟨#[47]⟩ : ByteArray)) ++ a1).size + 1 ≤ 9223372036854775807
           ·rw [if_pos c32] at H
            have c32b0 := eq_true c32; have c32b1 : decide ((((⟨#[101]⟩ : ByteArray) ++ (⟨#[47]⟩ : ByteArray)) ++ a1).size + 1 ≤ 9223372036854775807) = true := decide_eq_true c32; (try have c32b2 : (9223372036854775807 < (((⟨#[101]⟩ : ByteArray) ++ (⟨#[47]⟩ : ByteArray)) ++ a1).size + 1) = False := eq_false (Nat.not_lt.2 c32)); (try (have c32b5 := c32b2; simp only [ByteArray.size_append, ByteArray.size_extract, My.size_mk, List.size_toArray, List.length_cons, List.length_nil, Nat.zero_add, Nat.reduceAdd] at c32b5)); (try (have c32b6 : (9223372036854775807 < (((⟨#[101]⟩ : ByteArray) ++ (⟨#[47]⟩ : ByteArray)) ++ a1).size) = False := eq_false (by have := c32; omega); simp only [ByteArray.size_append, ByteArray.size_extract, My.size_mk, List.size_toArray, List.length_cons, List.length_nil, Nat.zero_add, Nat.reduceAdd] at c32b6)); simp only [Option.some.injEq, Prod.mk.injEq] at H; obtain ⟨rfl, rfl⟩ := H
            go_wp2_with (first | (go_at_call 18; (with_reducible refine (batonref02_Name.calls kj9 a1 true _ A28.out).mono ?_); rintro e w' ⟨rfl, ⟨nd, rfl⟩⟩))
            go_ret2
            exact ⟨by first | rfl | (simp; done) | (simp [*]; done) | exact absurd (by first | rfl | simp | decide +kernel) c49, My.dD⟩
           ·exact My.no c32 H
          ·exact My.no c31 H
         ·exact My.no c30 H
        ·replace c29 := Bool.eq_false_iff.mpr c29
         subst c29; rw [if_neg (show ¬ (false = true) by decide)] at H; simp only [Option.some.injEq, Prod.mk.injEq] at H; obtain ⟨rfl, rfl⟩ := H
         go_wp2_with (first | (go_at_call 18; (with_reducible refine (batonref02_Name.calls kj9 a1 false _ A28.out).mono ?_); rintro e w' ⟨rfl, ⟨nd, rfl⟩⟩))
         go_ret2
         exact ⟨by first | rfl | (simp; done) | (simp [*]; done) | exact absurd (by first | rfl | simp | decide +kernel) c49, My.dD⟩
      ·rw [if_neg c26] at H
       have c26b0 : (a0 == 5) = false := beq_eq_false_iff_ne.mpr c26; have c26b1 : (a0 != 5) = true := bne_iff_ne.mpr c26
       by_cases c33 : a0 = 6
       ·rw [if_pos c33] at H
        have c33b0 : (a0 == 6) = true := beq_iff_eq.mpr c33; have c33b1 : (a0 != 6) = false := bne_eq_false_iff_eq.mpr c33; clear c33
        by_cases c34 : ([112] : List UInt8) = ([] : List UInt8)
        ·rw [if_pos c34] at H
         have c34b0 : (([112] : List UInt8) == ([] : List UInt8)) = true := beq_iff_eq.mpr c34; have c34b1 : (([112] : List UInt8) != ([] : List UInt8)) = false := bne_eq_false_iff_eq.mpr c34; clear c34; simp only [Option.some.injEq, Prod.mk.injEq] at H; obtain ⟨rfl, rfl⟩ := H
         go_wp2
         go_ret2
         exact ⟨by first | rfl | (simp; done) | (simp [*]; done) | exact absurd (by first | rfl | simp | decide +kernel) c49, My.dD⟩
        ·rw [if_neg c34] at H
         have c34b0 : (([112] : List UInt8) == ([] : List UInt8)) = false := beq_eq_false_iff_ne.mpr c34; have c34b1 : (([112] : List UInt8) != ([] : List UInt8)) = true := bne_iff_ne.mpr c34; replace H := Option.bind_eq_some_iff.mp H; obtain ⟨t498, A350, H⟩ := H; have A35 := Aside0.mk A350; clear A350
         by_cases c36 : t498 = true
         ·subst c36
          rw [if_pos rfl] at H
          by_cases c37 : 1 + 1 ≤ 9223372036854775807
          ·rw [if_pos c37] at H
           have c37b0 := eq_true c37; have c37b1 : decide (1 + 1 ≤ 9223372036854775807) = true := decide_eq_true c37; (try have c37b2 : (9223372036854775807 < 1 + 1) = False := eq_false (Nat.not_lt.2 c37))
           by_cases c38 : 1 + a1.size ≤ 9223372036854775807
           ·rw [if_pos c38] at H
            have c38b0 := eq_true c38; have c38b1 : decide (1 + a1.size ≤ 9223372036854775807) = true := decide_eq_true c38; (try have c38b2 : (9223372036854775807 < 1 + a1.size) = False := eq_false (Nat.not_lt.2 c38))
            by_cases c39 : (((⟨#[112]⟩ : ByteArray) ++ (⟨#[47]⟩ : ByteArray)) ++ a1).size + 1 ≤ 9223372036854775807
            ·rw [if_pos c39] at H
             have c39b0 := eq_true c39; have c39b1 : decide ((((⟨#[112]⟩ : ByteArray) ++ (⟨#[47]⟩ : ByteArray)) ++ a1).size + 1 ≤ 9223372036854775807) = true := decide_eq_true c39; (try have c39b2 : (9223372036854775807 < (((⟨#[112]⟩ : ByteArray) ++ (⟨#[47]⟩ : ByteArray)) ++ a1).size + 1) = False := eq_false (Nat.not_lt.2 c39)); (try (have c39b5 := c39b2; simp only [ByteArray.size_append, ByteArray.size_extract, My.size_mk, List.size_toArray, List.length_cons, List.length_nil, Nat.zero_add, Nat.reduceAdd] at c39b5)); (try (have c39b6 : (9223372036854775807 < (((⟨#[112]⟩ : ByteArray) ++ (⟨#[47]⟩ : ByteArray)) ++ a1).size) = False := eq_false (by have := c39; omega); simp only [ByteArray.size_append, ByteArray.size_extract, My.size_mk, List.size_toArray, List.length_cons, List.length_nil, Nat.zero_add, Nat.reduceAdd] at c39b6)); simp only [Option.some.injEq, Prod.mk.injEq] at H; obtain ⟨rfl, rfl⟩ := H
             go_wp2_with (first | (go_at_call 18; (with_reducible refine (batonref02_Name.calls kj9 a1 true _ A35.out).mono ?_); rintro e w' ⟨rfl, ⟨nd, rfl⟩⟩))
             go_ret2
             exact ⟨by first | rfl | (simp; done) | (simp [*]; done) | exact absurd (by first | rfl | simp | decide +kernel) c49, My.dD⟩
            ·exact My.no c39 H
           ·exact My.no c38 H
          ·exact My.no c37 H
         ·replace c36 := Bool.eq_false_iff.mpr c36
          subst c36; rw [if_neg (show ¬ (false = true) by decide)] at H; simp only [Option.some.injEq, Prod.mk.injEq] at H; obtain ⟨rfl, rfl⟩ := H
          go_wp2_with (first | (go_at_call 18; (with_reducible refine (batonref02_Name.calls kj9 a1 false _ A35.out).mono ?_); rintro e w' ⟨rfl, ⟨nd, rfl⟩⟩))
          go_ret2
          exact ⟨by first | rfl | (simp; done) | (simp [*]; done) | exact absurd (by first | rfl | simp | decide +kernel) c49, My.dD⟩
       ·rw [if_neg c33] at H
        have c33b0 : (a0 == 6) = false := beq_eq_false_iff_ne.mpr c33; have c33b1 : (a0 != 6) = true := bne_iff_ne.mpr c33; have HC40 := Aside0.mk H; clear H
        go_upto_if 19 with (fail)
        go_cut [19] (fun v19 wc => ∃ (kq : Nat) (x19_39 : Bool), v19 = .bool x19_39 ∧ Aside0 (batonref02_Prefix.j1 kq a1 (⟨#[]⟩ : ByteArray) x19_39 = some (r1, r2)) ∧ Aside0 (kq ≤ kj9) ∧ Drawn0 w wc)
        case first =>
         have H := HC40.out; clear HC40
         by_cases c41 : a0 = 7
         ·rw [if_pos c41] at H
          have c41b0 : (a0 == 7) = true := beq_iff_eq.mpr c41; have c41b1 : (a0 != 7) = false := bne_eq_false_iff_eq.mpr c41; clear c41; (first | rw [c41b0] | (simp only [i64_w, i32_w]; rw [c41b0]) | skip); have H' := Aside0.mk H; clear H
          go_wp2
          go_meet
          case rel => exact ⟨_, ((a0 == 7)), My.q0, H', ⟨by have := HJ9.out; first | omega | exact Nat.le_refl _⟩, My.dD⟩
         ·rw [if_neg c41] at H
          have c41b0 : (a0 == 7) = false := beq_eq_false_iff_ne.mpr c41; have c41b1 : (a0 != 7) = true := bne_iff_ne.mpr c41; (first | rw [c41b0] | (simp only [i64_w, i32_w]; rw [c41b0]) | skip); have H' := Aside0.mk H; clear H
          go_wp2
          go_meet
          case rel => exact ⟨_, ((a0 == 8)), My.q0, H', ⟨by have := HJ9.out; first | omega | exact Nat.le_refl _⟩, My.dD⟩
        case rest =>
         clear HC40; (try clear c1); (try clear c2); (try clear p2); (try clear c3); (try clear c3b0); (try clear c3b1); (try clear c4); (try clear c4b0); (try clear c4b1); (try clear c6); (try clear c7); (try clear c7b0); (try clear c7b1); (try clear c7b2); (try clear c8); (try clear c8b0); (try clear c8b1); (try clear c8b2); (try clear c9); (try clear c9b0); (try clear c9b1); (try clear c9b2); (try clear c11); (try clear c11b0); (try clear c11b1); (try clear c12); (try clear c13); (try clear c13b0); (try clear c13b1); (try clear c15); (try clear c16); (try clear c16b0); (try clear c16b1); (try clear c16b2); (try clear c17); (try clear c17b0); (try clear c17b1); (try clear c17b2); (try clear c18); (try clear c18b0); (try clear c18b1); (try clear c18b2); (try clear c19); (try clear c19b0); (try clear c19b1); (try clear c20); (try clear c20b0); (try clear c20b1); (try clear c22); (try clear c23); (try clear c23b0); (try clear c23b1); (try clear c23b2); (try clear c24); (try clear c24b0); (try clear c24b1); (try clear c24b2); (try clear c25); (try clear c25b0); (try clear c25b1); (try clear c25b2); (try clear c26); (try clear c26b0); (try clear c26b1); (try clear c27); (try clear c27b0); (try clear c27b1); (try clear c29); (try clear c30); (try clear c30b0); (try clear c30b1); (try clear c30b2); (try clear c31); (try clear c31b0); (try clear c31b1); (try clear c31b2); (try clear c32); (try clear c32b0); (try clear c32b1); (try clear c32b2); (try clear c33); (try clear c33b0); (try clear c33b1); (try clear c34); (try clear c34b0); (try clear c34b1); (try clear c36); (try clear c37); (try clear c37b0); (try clear c37b1); (try clear c37b2); (try clear c38); (try clear c38b0); (try clear c38b1); (try clear c38b2); (try clear c39); (try clear c39b0); (try clear c39b1); (try clear c39b2); (try clear c41); (try clear c41b0); (try clear c41b1); (try clear p2); obtain ⟨kq, x19_39, rfl, HA, HJ39, ⟨mc39, rfl⟩⟩ := hcut
         cases kq with
         | zero => exact absurd HA.out (by simp [batonref02_Prefix.j1])
         | succ kj39 =>
          have H := HA.out; clear HA; simp only [batonref02_Prefix.j1] at H
          by_cases c42 : x19_39 = true
          ·subst c42
           rw [if_pos rfl] at H
           by_cases c43 : ([113] : List UInt8) = ([] : List UInt8)
           ·rw [if_pos c43] at H
            have c43b0 : (([113] : List UInt8) == ([] : List UInt8)) = true := beq_iff_eq.mpr c43; have c43b1 : (([113] : List UInt8) != ([] : List UInt8)) = false := bne_eq_false_iff_eq.mpr c43; clear c43; simp only [Option.some.injEq, Prod.mk.injEq] at H; obtain ⟨rfl, rfl⟩ := H
            go_wp2
            go_ret2
            exact ⟨by first | rfl | (simp; done) | (simp [*]; done) | exact absurd (by first | rfl | simp | decide +kernel) c49, My.dD⟩
           ·rw [if_neg c43] at H
            have c43b0 : (([113] : List UInt8) == ([] : List UInt8)) = false := beq_eq_false_iff_ne.mpr c43; have c43b1 : (([113] : List UInt8) != ([] : List UInt8)) = true := bne_iff_ne.mpr c43; replace H := Option.bind_eq_some_iff.mp H; obtain ⟨t499, A440, H⟩ := H; have A44 := Aside0.mk A440; clear A440
            by_cases c45 : t499 = true
            ·subst c45
             rw [if_pos rfl] at H
             by_cases c46 : 1 + 1 ≤ 9223372036854775807
             ·rw [if_pos c46] at H
              have c46b0 := eq_true c46; have c46b1 : decide (1 + 1 ≤ 9223372036854775807) = true := decide_eq_true c46; (try have c46b2 : (9223372036854775807 < 1 + 1) = False := eq_false (Nat.not_lt.2 c46))
              by_cases c47 : 1 + a1.size ≤ 9223372036854775807
              ·rw [if_pos c47] at H
               have c47b0 := eq_true c47; have c47b1 : decide (1 + a1.size ≤ 9223372036854775807) = true := decide_eq_true c47; (try have c47b2 : (9223372036854775807 < 1 + a1.size) = False := eq_false (Nat.not_lt.2 c47))
               by_cases c48 : (((⟨#[113]⟩ : ByteArray) ++ (⟨#[47]⟩ : ByteArray)) ++ a1).size + 1 ≤ 9223372036854775807
               ·rw [if_pos c48] at H
                have c48b0 := eq_true c48; have c48b1 : decide ((((⟨#[113]⟩ : ByteArray) ++ (⟨#[47]⟩ : ByteArray)) ++ a1).size + 1 ≤ 9223372036854775807) = true := decide_eq_true c48; (try have c48b2 : (9223372036854775807 < (((⟨#[113]⟩ : ByteArray) ++ (⟨#[47]⟩ : ByteArray)) ++ a1).size + 1) = False := eq_false (Nat.not_lt.2 c48)); (try (have c48b5 := c48b2; simp only [ByteArray.size_append, ByteArray.size_extract, My.size_mk, List.size_toArray, List.length_cons, List.length_nil, Nat.zero_add, Nat.reduceAdd] at c48b5)); (try (have c48b6 : (9223372036854775807 < (((⟨#[113]⟩ : ByteArray) ++ (⟨#[47]⟩ : ByteArray)) ++ a1).size) = False := eq_false (by have := c48; omega); simp only [ByteArray.size_append, ByteArray.size_extract, My.size_mk, List.size_toArray, List.length_cons, List.length_nil, Nat.zero_add, Nat.reduceAdd] at c48b6)); simp only [Option.some.injEq, Prod.mk.injEq] at H; obtain ⟨rfl, rfl⟩ := H
                go_wp2_with (first | (go_at_call 18; (with_reducible refine (batonref02_Name.calls kj39 a1 true _ A44.out).mono ?_); rintro e w' ⟨rfl, ⟨nd, rfl⟩⟩))
                go_ret2
                exact ⟨by first | rfl | (simp; done) | (simp [*]; done) | exact absurd (by first | rfl | simp | decide +kernel) c49, My.dD⟩
               ·exact My.no c48 H
              ·exact My.no c47 H
             ·exact My.no c46 H
            ·replace c45 := Bool.eq_false_iff.mpr c45
             subst c45; rw [if_neg (show ¬ (false = true) by decide)] at H; simp only [Option.some.injEq, Prod.mk.injEq] at H; obtain ⟨rfl, rfl⟩ := H
             go_wp2_with (first | (go_at_call 18; (with_reducible refine (batonref02_Name.calls kj39 a1 false _ A44.out).mono ?_); rintro e w' ⟨rfl, ⟨nd, rfl⟩⟩))
             go_ret2
             exact ⟨by first | rfl | (simp; done) | (simp [*]; done) | exact absurd (by first | rfl | simp | decide +kernel) c49, My.dD⟩
          ·replace c42 := Bool.eq_false_iff.mpr c42
           subst c42; rw [if_neg (show ¬ (false = true) by decide)] at H
           by_cases c49 : (⟨#[]⟩ : ByteArray).toList = ([] : List UInt8)
           ·rw [if_pos c49] at H
            have c49b0 : ((⟨#[]⟩ : ByteArray).toList == ([] : List UInt8)) = true := beq_iff_eq.mpr c49; have c49b1 : ((⟨#[]⟩ : ByteArray).toList != ([] : List UInt8)) = false := bne_eq_false_iff_eq.mpr c49; clear c49; simp only [Option.some.injEq, Prod.mk.injEq] at H; obtain ⟨rfl, rfl⟩ := H
            go_wp2
            go_ret2
            exact ⟨by first | rfl | (simp; done) | (simp [*]; done) | exact absurd (by first | rfl | simp | decide +kernel) c49, My.dD⟩
           ·rw [if_neg c49] at H
            have c49b0 : ((⟨#[]⟩ : ByteArray).toList == ([] : List UInt8)) = false := beq_eq_false_iff_ne.mpr c49; have c49b1 : ((⟨#[]⟩ : ByteArray).toList != ([] : List UInt8)) = true := bne_iff_ne.mpr c49; replace H := Option.bind_eq_some_iff.mp H; obtain ⟨t500, A500, H⟩ := H; have A50 := Aside0.mk A500; clear A500
            by_cases c51 : t500 = true
            ·subst c51
             rw [if_pos rfl] at H
             by_cases c52 : (⟨#[]⟩ : ByteArray).size + 1 ≤ 9223372036854775807
             ·rw [if_pos c52] at H
              have c52b0 := eq_true c52; have c52b1 : decide ((⟨#[]⟩ : ByteArray).size + 1 ≤ 9223372036854775807) = true := decide_eq_true c52; (try have c52b2 : (9223372036854775807 < (⟨#[]⟩ : ByteArray).size + 1) = False := eq_false (Nat.not_lt.2 c52))
              by_cases c53 : ((⟨#[]⟩ : ByteArray) ++ (⟨#[47]⟩ : ByteArray)).size + a1.size ≤ 9223372036854775807
              ·rw [if_pos c53] at H
               have c53b0 := eq_true c53; have c53b1 : decide (((⟨#[]⟩ : ByteArray) ++ (⟨#[47]⟩ : ByteArray)).size + a1.size ≤ 9223372036854775807) = true := decide_eq_true c53; (try have c53b2 : (9223372036854775807 < ((⟨#[]⟩ : ByteArray) ++ (⟨#[47]⟩ : ByteArray)).size + a1.size) = False := eq_false (Nat.not_lt.2 c53)); (try (have c53b5 := c53b2; simp only [ByteArray.size_append, ByteArray.size_extract, My.size_mk, List.size_toArray, List.length_cons, List.length_nil, Nat.zero_add, Nat.reduceAdd] at c53b5)); (try (have c53b6 : (9223372036854775807 < ((⟨#[]⟩ : ByteArray) ++ (⟨#[47]⟩ : ByteArray)).size) = False := eq_false (by have := c53; omega); simp only [ByteArray.size_append, ByteArray.size_extract, My.size_mk, List.size_toArray, List.length_cons, List.length_nil, Nat.zero_add, Nat.reduceAdd] at c53b6))
               by_cases c54 : (((⟨#[]⟩ : ByteArray) ++ (⟨#[47]⟩ : ByteArray)) ++ a1).size + 1 ≤ 9223372036854775807
               ·rw [if_pos c54] at H
                have c54b0 := eq_true c54; have c54b1 : decide ((((⟨#[]⟩ : ByteArray) ++ (⟨#[47]⟩ : ByteArray)) ++ a1).size + 1 ≤ 9223372036854775807) = true := decide_eq_true c54; (try have c54b2 : (9223372036854775807 < (((⟨#[]⟩ : ByteArray) ++ (⟨#[47]⟩ : ByteArray)) ++ a1).size + 1) = False := eq_false (Nat.not_lt.2 c54)); (try (have c54b5 := c54b2; simp only [ByteArray.size_append, ByteArray.size_extract, My.size_mk, List.size_toArray, List.length_cons, List.length_nil, Nat.zero_add, Nat.reduceAdd] at c54b5)); (try (have c54b6 : (9223372036854775807 < (((⟨#[]⟩ : ByteArray) ++ (⟨#[47]⟩ : ByteArray)) ++ a1).size) = False := eq_false (by have := c54; omega); simp only [ByteArray.size_append, ByteArray.size_extract, My.size_mk, List.size_toArray, List.length_cons, List.length_nil, Nat.zero_add, Nat.reduceAdd] at c54b6)); simp only [Option.some.injEq, Prod.mk.injEq] at H; obtain ⟨rfl, rfl⟩ := H
                go_wp2_with (first | (go_at_call 18; (with_reducible refine (batonref02_Name.calls kj39 a1 true _ A50.out).mono ?_); rintro e w' ⟨rfl, ⟨nd, rfl⟩⟩))
                go_ret2
                exact ⟨by first | rfl | (simp; done) | (simp [*]; done) | exact absurd (by first | rfl | simp | decide +kernel) c49, My.dD⟩
               ·exact My.no c54 H
              ·exact My.no c53 H
             ·exact My.no c52 H
            ·replace c51 := Bool.eq_false_iff.mpr c51
             subst c51; rw [if_neg (show ¬ (false = true) by decide)] at H; simp only [Option.some.injEq, Prod.mk.injEq] at H; obtain ⟨rfl, rfl⟩ := H
             go_wp2_with (first | (go_at_call 18; (with_reducible refine (batonref02_Name.calls kj39 a1 false _ A50.out).mono ?_); rintro e w' ⟨rfl, ⟨nd, rfl⟩⟩))
             go_ret2
             exact ⟨by first | rfl | (simp; done) | (simp [*]; done) | exact absurd (by first | rfl | simp | decide +kernel) c49, My.dD⟩

/-! ### batonref06_Absent: function 32 -/
def batonref06_Absent.f (a0 : ByteArray) : Option (ByteArray × Int × Int × Int × ByteArray) := some (a0, 1, 1, 0, (⟨#[]⟩ : ByteArray))
set_option maxHeartbeats 80000000 in
set_option maxRecDepth 100000 in
theorem batonref06_Absent.calls (a0 : ByteArray) (r1 : ByteArray) (r2 : Int) (r3 : Int) (r4 : Int) (r5 : ByteArray) (w : World) (h : batonref06_Absent.f a0 = some (r1, r2, r3, r4, r5)) :
    Calls Try.prog 32 #[.string a0] w fun e w' => e = .returned (.agg #[.string r1, .int .i64 r2, .int .i64 r3, .int .i64 r4, .string r5]) ∧ Below w.heap.size w w' := by
  have hu68 := Try.underlying68; have HB := My.m (Below.refl w.heap.size w); have H := h; clear h; unfold batonref06_Absent.f at H; simp only [Option.some.injEq, Prod.mk.injEq] at H; obtain ⟨rfl, rfl, rfl, rfl, rfl⟩ := H
  go_enter Try.func32, Try.ntmps32
  go_wp2_with (first | ((with_reducible refine gate_dst (N := 2) rfl ?_); refine My.be 2 68 #[.string (⟨#[]⟩ : ByteArray), .int .i64 0, .int .i64 0, .int .i64 0, .string (⟨#[]⟩ : ByteArray)] ?_; intro gb501 hg w2 hbox hb; have BK501 := My.m hbox; have GW501 := My.m ((My.nw w hg My.bB)); have GE501 := My.m ((My.nw w hg My.bB)); replace HB := My.m (below_step My.bB hb); clear hb hbox hg; obtain ⟨_, _, _, _, _⟩ := My.qc5 BK501.out; obtain ⟨_, _, _, _, _⟩ := My.qf5 BK501.out))
  refine bodyPost_ret (results_cell_row rfl _ _ gb501 68 #[.string a0, .int .i64 1, .int .i64 1, .int .i64 0, .string (⟨#[]⟩ : ByteArray)] (0, 0) _ rfl (My.qp5 BK501.out) Try.underlying68 rfl (by kernel_rfl)) rfl ?_; exact ⟨My.q1, My.bA⟩

/-! ### batonref06_Put: function 21 -/
def batonref06_Put.f (a0 : ByteArray) (a1 : ByteArray) (a2 : Int) : Option ((List (S68)) × (List (S53)) × (List (S53))) := (batonref06_Absent.f a0).bind fun bt503 => (some ((([(⟨bt503.1, bt503.2.1, bt503.2.2.1, bt503.2.2.2.1, bt503.2.2.2.2⟩ : S68)] : List (S68))), (([(⟨false, a0, a1, a2⟩ : S53)] : List (S53))), ([] : List (S53))))
set_option maxHeartbeats 80000000 in
set_option maxRecDepth 100000 in
theorem batonref06_Put.calls (a0 : ByteArray) (a1 : ByteArray) (a2 : Int) (r1 : List (S68)) (r2 : List (S53)) (r3 : List (S53)) (w : World) (h : batonref06_Put.f a0 a1 a2 = some (r1, r2, r3)) :
    Calls Try.prog 21 #[.string a0, .string a1, .int .i64 a2] w fun e w' => ∃ v0_ v1_ v2_ : Value, e = .returned (.agg #[v0_, v1_, v2_]) ∧ Kd.R k68 68 w' w.heap.size (fun _ => True) v0_ r1 ∧ Kd.R k53 53 w' w.heap.size (fun k_ => some k_ ≠ (v2_ : Value).ownBlock) v1_ r2 ∧ Kd.R k53 53 w' w.heap.size (fun k_ => some k_ ≠ (v1_ : Value).ownBlock) v2_ r3 ∧ Below w.heap.size w w' := by
  have hu34 := Try.underlying34; have hu53 := Try.underlying53; have HB := My.m (Below.refl w.heap.size w); have H := h; clear h; unfold batonref06_Put.f at H; replace H := Option.bind_eq_some_iff.mp H; obtain ⟨⟨t503, t504, t505, t506, t507⟩, A40, H⟩ := H; dsimp only at H; have A4 := Aside0.mk A40; clear A40; obtain ⟨y508, hy508⟩ : ∃ y_ : List (S68), y_ = (([(⟨t503, t504, t505, t506, t507⟩ : S68)] : List (S68))) := ⟨_, rfl⟩; (replace H : (some (y508, (([(⟨false, a0, a1, a2⟩ : S53)] : List (S53))), ([] : List (S53)))) = some (r1, r2, r3) := by first | (rw [hy508]; with_reducible exact H) | (have H2_ := (Option.bind_some _ _).symm.trans H; rw [hy508]; with_reducible exact H2_) | (have H2_ := (Option.bind_some _ _).symm.trans H; with_reducible exact H2_) | with_reducible exact H | (rw [hy508]; exact H) | exact H); have Ny508 := Aside0.mk hy508; clear hy508; obtain ⟨y511, hy511⟩ : ∃ y_ : List (S53), y_ = (([(⟨false, a0, a1, a2⟩ : S53)] : List (S53))) := ⟨_, rfl⟩; (replace H : (some (y508, y511, ([] : List (S53)))) = some (r1, r2, r3) := by first | (rw [hy511]; with_reducible exact H) | (have H2_ := (Option.bind_some _ _).symm.trans H; rw [hy511]; with_reducible exact H2_) | (have H2_ := (Option.bind_some _ _).symm.trans H; with_reducible exact H2_) | with_reducible exact H | (rw [hy511]; exact H) | exact H); have Ny511 := Aside0.mk hy511; clear hy511; simp only [Option.some.injEq, Prod.mk.injEq] at H; obtain ⟨rfl, rfl, rfl⟩ := H
  go_enter Try.func21, Try.ntmps21
  go_wp2_with (first | ((with_reducible refine gate_dst (N := 6) rfl ?_); refine My.be 6 34 #[.slice none 0 0, .slice none 0 0, .slice none 0 0] ?_; intro gb502 hg w5 hbox hb; have BK502 := My.m hbox; have GW502 := My.m ((My.nw w hg My.bB)); have GE502 := My.m ((My.nw w hg My.bB)); replace HB := My.m (below_step My.bB hb); clear hb hbox hg) | ((with_reducible refine gate_callee (f := 32) rfl ?_); refine goesL_ (some 8) rfl rfl Try.func32 (by kernel_rfl) rfl #[.string a0] rfl My.ar ?_; (with_reducible refine (batonref06_Absent.calls a0 t503 t504 t505 t506 t507 _ A4.out).mono ?_); rintro e w6 ⟨rfl, hb⟩; refine ⟨_, rfl, ?_⟩; replace BK502 := My.m (My.kb BK502.out hb); replace HB := My.m (below_step My.bA hb); (try clear hb); (try clear hb2); (try clear hk); (try clear hi)) | ((with_reducible refine gate_dst (N := 9) rfl ?_); refine Kd.R_lit k68 _ 68 ?hg (N := 9) ?hd (xs := ([(⟨t503, t504, t505, t506, t507⟩ : S68)] : List (S68))) (inner := [.string t503, .int .i64 t504, .int .i64 t505, .int .i64 t506, .string t507]) (ok := fun _ => True) (okp := fun _ => True) ?hr ?hp (fun _ hk => hk) trivial (Below.refl _ _) (Nat.le_refl _) (by simp) ?_; (case hd => rfl); (case hg => rfl); (case hr => first | (go_simp; done) | (go_simp; rfl)); (case hp => exact (Reps.c5 (show Kd.M k68 _ _ _ (⟨t503, t504, t505, t506, t507⟩ : S68) [.string t503, .int .i64 t504, .int .i64 t505, .int .i64 t506, .string t507] from (k68_mkM _ _ _ (⟨t503, t504, t505, t506, t507⟩ : S68) )) (Reps.none _ _))); intro v509 w7 ho8 hb hg_ hnew_; clear hg_ hnew_; (first | rw [← Ny508.out] at ho8 | (simp only [Int.reduceToNat] at ho8; rw [← Ny508.out] at ho8)); have HO510 := My.m (Kd.R_lower ho8 (below_size My.bA)); replace BK502 := My.m (My.kb BK502.out hb); replace HB := My.m (below_step My.bA hb); clear hb ho8) | ((with_reducible refine gate_dst (N := 14) rfl ?_); refine Kd.R_lit k53 _ 53 ?hg (N := 14) ?hd (xs := ([(⟨false, a0, a1, a2⟩ : S53)] : List (S53))) (inner := [.bool false, .string a0, .string a1, .int .i64 a2]) (ok := fun _ => True) (okp := fun _ => True) ?hr ?hp (fun _ hk => hk) trivial (Below.refl _ _) (Nat.le_refl _) (by simp) ?_; (case hd => rfl); (case hg => rfl); (case hr => first | (go_simp; done) | (go_simp; rfl)); (case hp => exact (Reps.c4 (show Kd.M k53 _ _ _ (⟨false, a0, a1, a2⟩ : S53) [.bool false, .string a0, .string a1, .int .i64 a2] from (k53_mkM _ _ _ (⟨false, a0, a1, a2⟩ : S53) )) (Reps.none _ _))); intro v512 w9 ho10 hb hg_ hnew_; clear hg_ hnew_; (first | rw [← Ny511.out] at ho10 | (simp only [Int.reduceToNat] at ho10; rw [← Ny511.out] at ho10)); replace HO510 := My.m (Kd.R_below (My.Ra HO510.out) hb); have HO513 := My.m (Kd.R_lower ho10 (below_size My.bA)); replace BK502 := My.m (My.kb BK502.out hb); replace HB := My.m (below_step My.bA hb); clear hb ho10; obtain ⟨Ao11, co11, eo11⟩ := Kd.R_slice HO513.out; subst eo11; obtain ⟨Ao12, co12, eo12⟩ := Kd.R_slice HO510.out; subst eo12; obtain ⟨_, _, _⟩ := My.qc3 BK502.out; obtain ⟨_, _, _⟩ := My.qf3 BK502.out))
  refine bodyPost_ret (results_cell_row rfl _ _ gb502 34 #[.slice Ao12 y508.length co12, .slice Ao11 y511.length co11, .slice none 0 0] (0, 0) _ rfl (My.qp3 BK502.out) Try.underlying34 rfl (by kernel_rfl)) rfl ?_; exact ⟨_, _, _, My.q1, by (with_reducible repeat (first | apply Kd.R_alloc | apply Kd.R_drewN | apply Kd.R_drew)); exact Kd.R_mono (My.qr3 (Kd.R_types HO510.out BK502.out (by decide)) (fun _ hk => hk.2)) (fun _ hk => trivial), by (with_reducible repeat (first | apply Kd.R_alloc | apply Kd.R_drewN | apply Kd.R_drew)); exact Kd.R_mono (My.qr3 (Kd.R_types HO513.out BK502.out (by decide)) (fun _ hk => hk.2)) (fun _ hk => (by simp [Value.ownBlock])), by first | exact Kd.R_nil _ _ _ _ _ | exact Kd.N_nil _ _ _ _ _ | exact Kd.V_nil _ _ _ _ _ | exact Kd.Q_nil _ _ _ _ _ | exact Kd.S_nil _ _ _ _ _, My.bA⟩

/-! ### batonref02_Flag: function 22 -/
def batonref02_Flag.f (k : Nat) (a0 : ByteArray) : Option (ByteArray × Bool) := (batonref02_Prefix.f k 6 a0).bind fun bt514 => (if bt514.2 = true then (if bt514.1.size + 4 ≤ 9223372036854775807 then (some (bt514.1 ++ (⟨#[111, 112, 101, 110]⟩ : ByteArray), true)) else (none)) else (some ((⟨#[]⟩ : ByteArray), false)))
theorem batonref02_Flag.mono : ∀ a0 k, LeO (batonref02_Flag.f k a0) (batonref02_Flag.f (k + 1) a0) := by
  intro a0 k
  unfold batonref02_Flag.f
  have ic0 := @batonref02_Prefix.mono; exact My.mono_
set_option maxHeartbeats 80000000 in
set_option maxRecDepth 100000 in
theorem batonref02_Flag.calls (k : Nat) (a0 : ByteArray) (r1 : ByteArray) (r2 : Bool) (w : World) (h : batonref02_Flag.f k a0 = some (r1, r2)) :
    Calls Try.prog 22 #[.string a0] w fun e w' => e = .returned (.tuple #[.string r1, .bool r2]) ∧ Drawn0 w w' := by
  have H := h; clear h; unfold batonref02_Flag.f at H; replace H := Option.bind_eq_some_iff.mp H; obtain ⟨⟨t514, t515⟩, A20, H⟩ := H; dsimp only at H; have A2 := Aside0.mk A20; clear A20
  by_cases c3 : t515 = true
  · subst c3
    rw [if_pos rfl] at H
    by_cases c4 : t514.size + 4 ≤ 9223372036854775807
    · rw [if_pos c4] at H
      have c4b0 := eq_true c4; have c4b1 : decide (t514.size + 4 ≤ 9223372036854775807) = true := decide_eq_true c4; (try have c4b2 : (9223372036854775807 < t514.size + 4) = False := eq_false (Nat.not_lt.2 c4)); simp only [Option.some.injEq, Prod.mk.injEq] at H; obtain ⟨rfl, rfl⟩ := H
      go_enter Try.func22, Try.ntmps22
      go_wp2_with (first | ((with_reducible refine gate_callee (f := 20) rfl ?_); refine goesL_ (some 8) rfl rfl Try.func20 (by kernel_rfl) rfl #[.int .i64 6, .string a0] rfl My.ar ?_; (with_reducible refine (batonref02_Prefix.calls k 6 a0 t514 true _ A2.out).mono ?_); rintro e w' ⟨rfl, ⟨nd, rfl⟩⟩; refine ⟨_, rfl, ?_⟩))
      go_ret2
      exact ⟨My.q0, My.dD⟩
    · exact My.no c4 H
  · replace c3 := Bool.eq_false_iff.mpr c3
    subst c3; rw [if_neg (show ¬ (false = true) by decide)] at H; simp only [Option.some.injEq, Prod.mk.injEq] at H; obtain ⟨rfl, rfl⟩ := H
    go_enter Try.func22, Try.ntmps22
    go_wp2_with (first | ((with_reducible refine gate_callee (f := 20) rfl ?_); refine goesL_ (some 8) rfl rfl Try.func20 (by kernel_rfl) rfl #[.int .i64 6, .string a0] rfl My.ar ?_; (with_reducible refine (batonref02_Prefix.calls k 6 a0 t514 false _ A2.out).mono ?_); rintro e w' ⟨rfl, ⟨nd, rfl⟩⟩; refine ⟨_, rfl, ?_⟩))
    go_ret2
    exact ⟨My.q0, My.dD⟩

/-! ### batonref18_Ask: function 10 -/
mutual
def batonref18_Ask.j0 : Nat → ByteArray → Bool → Int → ByteArray → Int → ByteArray → ByteArray → Int → Int → Int → Int → Int → Option (Int × Int × Int × Bool × ByteArray × ByteArray × Int × Int × Int × Int × (List (S68)) × (List (S53)) × (List (S53)) × Bool)
 | 0, _, _, _, _, _, _, _, _, _, _, _, _ => none
 | k + 1, x4, x20, x517000, x517001, x517002, x517003, x517004, x517005, x517006, x517007, x517008, x517009 => if x20 = true then (some (0, 0, 0, false, (⟨#[]⟩ : ByteArray), (⟨#[]⟩ : ByteArray), 0, 0, 0, 0, ([] : List (S68)), ([] : List (S53)), ([] : List (S53)), false)) else (if x517006 = 1 then (if x517005 = 0 then (some (0, 0, 0, false, (⟨#[]⟩ : ByteArray), (⟨#[]⟩ : ByteArray), 0, 0, 0, 0, ([] : List (S68)), ([] : List (S53)), ([] : List (S53)), false)) else ((batonref06_Put.f x517004 x517003 x517005).bind fun bt520 => (some (2, 0, 0, true, (⟨#[]⟩ : ByteArray), (⟨#[]⟩ : ByteArray), 0, 0, 0, 0, bt520.1, bt520.2.1, bt520.2.2, true)))) else (if x517006 = 2 then (batonref18_Ask.j1 k x4 x517006 (x517006 == 2) x517000 x517001 x517002 x517003 x517004 x517005 x517006 x517007 x517008 x517009) else (batonref18_Ask.j1 k x4 x517006 (x517006 == 6) x517000 x517001 x517002 x517003 x517004 x517005 x517006 x517007 x517008 x517009)))
def batonref18_Ask.j1 : Nat → ByteArray → Int → Bool → Int → ByteArray → Int → ByteArray → ByteArray → Int → Int → Int → Int → Int → Option (Int × Int × Int × Bool × ByteArray × ByteArray × Int × Int × Int × Int × (List (S68)) × (List (S53)) × (List (S53)) × Bool)
 | 0, _, _, _, _, _, _, _, _, _, _, _, _, _ => none
 | k + 1, x4, x23, x38, x517000, x517001, x517002, x517003, x517004, x517005, x517006, x517007, x517008, x517009 => if x38 = true then (some (1, 0, 0, false, x4, (⟨#[]⟩ : ByteArray), 0, 0, 0, 0, ([] : List (S68)), ([] : List (S53)), ([] : List (S53)), true)) else (if x23 = 3 then (some (3, 0, 0, false, x4, (⟨#[]⟩ : ByteArray), 0, x517008, 0, 0, ([] : List (S68)), ([] : List (S53)), ([] : List (S53)), true)) else (if x23 = 9 then ((batonref02_Flag.f k x517001).bind fun bt529 => ((batonref06_Put.f bt529.1 (⟨#[]⟩ : ByteArray) 0).bind fun bt531 => (some (2, 0, 0, true, (⟨#[]⟩ : ByteArray), (⟨#[]⟩ : ByteArray), 0, 0, 0, 0, bt531.1, bt531.2.1, bt531.2.2, true)))) else (if x23 = 5 then (some (2, 0, 0, true, (⟨#[]⟩ : ByteArray), (⟨#[]⟩ : ByteArray), 0, 0, 0, 0, ([] : List (S68)), (([(⟨true, x517004, (⟨#[]⟩ : ByteArray), 0⟩ : S53)] : List (S53))), ([] : List (S53)), true)) else (some (0, 0, 0, false, (⟨#[]⟩ : ByteArray), (⟨#[]⟩ : ByteArray), 0, 0, 0, 0, ([] : List (S68)), ([] : List (S53)), ([] : List (S53)), false)))))
end
def batonref18_Ask.f (k : Nat) (a0_0 : Int) (a0_1 : ByteArray) (a0_2 : Int) (a0_3 : ByteArray) (a0_4 : ByteArray) (a0_5 : Int) (a0_6 : Int) (a0_7 : Int) (a0_8 : Int) (a0_9 : Int) : Option (Int × Int × Int × Bool × ByteArray × ByteArray × Int × Int × Int × Int × (List (S68)) × (List (S53)) × (List (S53)) × Bool) := (batonref02_Prefix.f k 6 a0_1).bind fun bt518 => (if bt518.2 = true then (batonref18_Ask.j0 k bt518.1 (a0_0 != 6) a0_0 a0_1 a0_2 a0_3 a0_4 a0_5 a0_6 a0_7 a0_8 a0_9) else (batonref18_Ask.j0 k bt518.1 true a0_0 a0_1 a0_2 a0_3 a0_4 a0_5 a0_6 a0_7 a0_8 a0_9))
theorem batonref18_Ask.mono_l : ∀ k, (∀ y0 y1 y2 y3 y4 y5 y6 y7 y8 y9 y10 y11, LeO (batonref18_Ask.j0 k y0 y1 y2 y3 y4 y5 y6 y7 y8 y9 y10 y11) (batonref18_Ask.j0 (k + 1) y0 y1 y2 y3 y4 y5 y6 y7 y8 y9 y10 y11)) ∧ (∀ y0 y1 y2 y3 y4 y5 y6 y7 y8 y9 y10 y11 y12, LeO (batonref18_Ask.j1 k y0 y1 y2 y3 y4 y5 y6 y7 y8 y9 y10 y11 y12) (batonref18_Ask.j1 (k + 1) y0 y1 y2 y3 y4 y5 y6 y7 y8 y9 y10 y11 y12))
 | 0 => ⟨fun _ _ _ _ _ _ _ _ _ _ _ _ r h => by simp [batonref18_Ask.j0] at h, fun _ _ _ _ _ _ _ _ _ _ _ _ _ r h => by simp [batonref18_Ask.j1] at h⟩
 | k + 1 => by
  obtain ⟨ih0, ih1⟩ := batonref18_Ask.mono_l k
  refine ⟨?_, ?_⟩
  ·intro y0 y1 y2 y3 y4 y5 y6 y7 y8 y9 y10 y11
   unfold batonref18_Ask.j0
   have ic0 := @batonref02_Flag.mono; have ic1 := @batonref02_Prefix.mono; exact My.mono_
  ·intro y0 y1 y2 y3 y4 y5 y6 y7 y8 y9 y10 y11 y12
   unfold batonref18_Ask.j1
   have ic0 := @batonref02_Flag.mono; have ic1 := @batonref02_Prefix.mono; exact My.mono_
theorem batonref18_Ask.mono : ∀ a0 a1 a2 a3 a4 a5 a6 a7 a8 a9 k, LeO (batonref18_Ask.f k a0 a1 a2 a3 a4 a5 a6 a7 a8 a9) (batonref18_Ask.f (k + 1) a0 a1 a2 a3 a4 a5 a6 a7 a8 a9) := by
 intro a0 a1 a2 a3 a4 a5 a6 a7 a8 a9 k
 obtain ⟨ih0, ih1⟩ := batonref18_Ask.mono_l k
 unfold batonref18_Ask.f
 have ic0 := @batonref02_Flag.mono; have ic1 := @batonref02_Prefix.mono; exact My.mono_
set_option maxHeartbeats 80000000 in
set_option maxRecDepth 100000 in
theorem batonref18_Ask.calls (k : Nat) (a0_0 : Int) (a0_1 : ByteArray) (a0_2 : Int) (a0_3 : ByteArray) (a0_4 : ByteArray) (a0_5 : Int) (a0_6 : Int) (a0_7 : Int) (a0_8 : Int) (a0_9 : Int) (r1 : Int) (r2 : Int) (r3 : Int) (r4 : Bool) (r5 : ByteArray) (r6 : ByteArray) (r7 : Int) (r8 : Int) (r9 : Int) (r10 : Int) (r11 : List (S68)) (r12 : List (S53)) (r13 : List (S53)) (r14 : Bool) (w : World) (h : batonref18_Ask.f k a0_0 a0_1 a0_2 a0_3 a0_4 a0_5 a0_6 a0_7 a0_8 a0_9 = some (r1, r2, r3, r4, r5, r6, r7, r8, r9, r10, r11, r12, r13, r14)) :
  Calls Try.prog 10 #[.agg #[.int .i64 a0_0, .string a0_1, .int .i64 a0_2, .string a0_3, .string a0_4, .int .i64 a0_5, .int .i64 a0_6, .int .i64 a0_7, .int .i64 a0_8, .int .i64 a0_9]] w fun e w' => ∃ v10_ v11_ v12_ : Value, e = .returned (.tuple #[.agg #[.int .i64 r1, .int .i64 r2, .int .i64 r3, .bool r4, .string r5, .string r6, .int .i64 r7, .int .i64 r8, .int .i64 r9, .int .i64 r10, v10_, v11_, v12_], .bool r14]) ∧ Kd.R k68 68 w' w.heap.size (fun _ => True) v10_ r11 ∧ Kd.R k53 53 w' w.heap.size (fun k_ => some k_ ≠ (v12_ : Value).ownBlock) v11_ r12 ∧ Kd.R k53 53 w' w.heap.size (fun k_ => some k_ ≠ (v11_ : Value).ownBlock) v12_ r13 ∧ Below w.heap.size w w' := by
 have hu24 := Try.underlying24; have hu36 := Try.underlying36; have hu53 := Try.underlying53; have hu34 := Try.underlying34; have HB := My.m (Below.refl w.heap.size w); have H := h; clear h; unfold batonref18_Ask.f at H; replace H := Option.bind_eq_some_iff.mp H; obtain ⟨⟨t518, t519⟩, A20, H⟩ := H; dsimp only at H; have A2 := Aside0.mk A20; clear A20; have HC3 := Aside0.mk H; clear H
 go_enter Try.func10, Try.ntmps10
 go_upto_region 2 with (first | ((with_reducible refine gate_dst (N := 1) rfl ?_); refine My.be 1 24 #[.int .i64 a0_0, .string a0_1, .int .i64 a0_2, .string a0_3, .string a0_4, .int .i64 a0_5, .int .i64 a0_6, .int .i64 a0_7, .int .i64 a0_8, .int .i64 a0_9] ?_; intro gb516 hg w4 hbox hb; have BK516 := My.m hbox; have GW516 := My.m ((My.nw w hg My.bB)); have GE516 := My.m ((My.nw w hg My.bB)); replace HB := My.m (below_step My.bB hb); clear hb hbox hg) | ((with_reducible refine gate_dst (N := 2) rfl ?_); refine My.be 2 36 #[.int .i64 0, .int .i64 0, .int .i64 0, .bool false, .string (⟨#[]⟩ : ByteArray), .string (⟨#[]⟩ : ByteArray), .int .i64 0, .int .i64 0, .int .i64 0, .int .i64 0, .slice none 0 0, .slice none 0 0, .slice none 0 0] ?_; intro gb517 hg w5 hbox hb; have BK517 := My.m hbox; have GW517 := My.m ((My.nw w hg My.bA)); have GE517 := My.m ((My.nw w hg My.bA)); replace HB := My.m (below_step My.bA hb); have NB516_517 := My.m ((My.nl hg BK516)); have NB517_516 := My.m ((My.nr hg BK516)); replace BK516 := My.m (My.kb BK516.out hb); clear hb hbox hg; have hnb6 := NB516_517.out; have hnc6 := NB517_516.out; obtain ⟨hcz7_0, hcz7_1, hcz7_2, hcz7_3, hcz7_4, hcz7_5, hcz7_6, hcz7_7, hcz7_8, hcz7_9⟩ := My.qc10 BK516.out; obtain ⟨hfz7_0, hfz7_1, hfz7_2, hfz7_3, hfz7_4, hfz7_5, hfz7_6, hfz7_7, hfz7_8, hfz7_9⟩ := My.qf10 BK516.out) | ((with_reducible refine gate_callee (f := 20) rfl ?_); refine goesL_ (some 11) rfl rfl Try.func20 (by kernel_rfl) rfl #[.int .i64 6, .string a0_1] rfl My.ar ?_; (with_reducible refine (batonref02_Prefix.calls k 6 a0_1 t518 t519 _ A2.out).mono ?_); rintro e w' ⟨rfl, ⟨nd, rfl⟩⟩; refine ⟨_, rfl, ?_⟩))
 (try simp only [Act.put, List.setIfInBounds_toArray, List.set_cons_zero, List.set_cons_succ])
 go_cut [20] (fun v20 wc => ∃ (kq : Nat) (x20_2 : Bool), v20 = .bool x20_2 ∧ Aside0 (batonref18_Ask.j0 kq t518 x20_2 a0_0 a0_1 a0_2 a0_3 a0_4 a0_5 a0_6 a0_7 a0_8 a0_9 = some (r1, r2, r3, r4, r5, r6, r7, r8, r9, r10, r11, r12, r13, r14)) ∧ Aside0 (kq ≤ k) ∧ Aside0 (wc.heap[gb516]? = some (.cells #[.int .i64 a0_0, .string a0_1, .int .i64 a0_2, .string a0_3, .string a0_4, .int .i64 a0_5, .int .i64 a0_6, .int .i64 a0_7, .int .i64 a0_8, .int .i64 a0_9] 24 (0, 0))) ∧ Aside0 (wc.heap[gb517]? = some (.cells #[.int .i64 0, .int .i64 0, .int .i64 0, .bool false, .string (⟨#[]⟩ : ByteArray), .string (⟨#[]⟩ : ByteArray), .int .i64 0, .int .i64 0, .int .i64 0, .int .i64 0, (.slice none 0 0), (.slice none 0 0), (.slice none 0 0)] 36 (0, 0))) ∧ Aside0 (Below w.heap.size w wc))
 case first =>
  have H := HC3.out; clear HC3
  by_cases c8 : t519 = true
  ·subst c8
   rw [if_pos rfl] at H; have H' := Aside0.mk H; clear H; have hnb9 := NB516_517.out; have hnc9 := NB517_516.out; obtain ⟨hcz10_0, hcz10_1, hcz10_2, hcz10_3, hcz10_4, hcz10_5, hcz10_6, hcz10_7, hcz10_8, hcz10_9⟩ := My.qc10 BK516.out; obtain ⟨hfz10_0, hfz10_1, hfz10_2, hfz10_3, hfz10_4, hfz10_5, hfz10_6, hfz10_7, hfz10_8, hfz10_9⟩ := My.qf10 BK516.out
   go_wp2
   go_meet
   case rel => exact ⟨_, ((a0_0 != 6)), My.q0, H', ⟨by first | omega | exact Nat.le_refl _⟩, ⟨My.Ka BK516.out⟩, ⟨My.Ka BK517.out⟩, ⟨My.bA⟩⟩
  ·replace c8 := Bool.eq_false_iff.mpr c8
   subst c8; rw [if_neg (show ¬ (false = true) by decide)] at H; have H' := Aside0.mk H; clear H
   go_wp2
   go_meet
   case rel => exact ⟨_, (true), My.q0, H', ⟨by first | omega | exact Nat.le_refl _⟩, ⟨My.Ka BK516.out⟩, ⟨My.Ka BK517.out⟩, ⟨My.bA⟩⟩
 case rest =>
  clear HC3; (try clear c1); (try clear c2); (try clear p2); (try clear c6); (try clear c8); (try clear c9); (try clear c10); (try clear hcz10_0); (try clear hcz10_1); (try clear hcz10_2); (try clear hcz10_3); (try clear hcz10_4); (try clear hcz10_5); (try clear hcz10_6); (try clear hcz10_7); (try clear hcz10_8); (try clear hcz10_9); (try clear hcz7_0); (try clear hcz7_1); (try clear hcz7_2); (try clear hcz7_3); (try clear hcz7_4); (try clear hcz7_5); (try clear hcz7_6); (try clear hcz7_7); (try clear hcz7_8); (try clear hcz7_9); (try clear hfz10_0); (try clear hfz10_1); (try clear hfz10_2); (try clear hfz10_3); (try clear hfz10_4); (try clear hfz10_5); (try clear hfz10_6); (try clear hfz10_7); (try clear hfz10_8); (try clear hfz10_9); (try clear hfz7_0); (try clear hfz7_1); (try clear hfz7_2); (try clear hfz7_3); (try clear hfz7_4); (try clear hfz7_5); (try clear hfz7_6); (try clear hfz7_7); (try clear hfz7_8); (try clear hfz7_9); obtain ⟨kq, x20_2, rfl, HA, HJ2, BK516, BK517, HB⟩ := hcut
  cases kq with
  | zero => exact absurd HA.out (by simp [batonref18_Ask.j0])
  | succ kj2 =>
   have H := HA.out; clear HA; simp only [batonref18_Ask.j0] at H
   by_cases c11 : x20_2 = true
   ·subst c11
    rw [if_pos rfl] at H; simp only [Option.some.injEq, Prod.mk.injEq] at H; obtain ⟨rfl, rfl, rfl, rfl, rfl, rfl, rfl, rfl, rfl, rfl, rfl, rfl, rfl, rfl⟩ := H; have hnb12 := NB517_516.out; have hnc12 := NB516_517.out; obtain ⟨hcz13_0, hcz13_1, hcz13_2, hcz13_3, hcz13_4, hcz13_5, hcz13_6, hcz13_7, hcz13_8, hcz13_9, hcz13_10, hcz13_11, hcz13_12⟩ := My.qc13 BK517.out; obtain ⟨hfz13_0, hfz13_1, hfz13_2, hfz13_3, hfz13_4, hfz13_5, hfz13_6, hfz13_7, hfz13_8, hfz13_9, hfz13_10, hfz13_11, hfz13_12⟩ := My.qf13 BK517.out
    go_wp2
    refine bodyPost_ret (results_ct rfl _ _ gb517 36 #[.int .i64 0, .int .i64 0, .int .i64 0, .bool false, .string (⟨#[]⟩ : ByteArray), .string (⟨#[]⟩ : ByteArray), .int .i64 0, .int .i64 0, .int .i64 0, .int .i64 0, .slice none 0 0, .slice none 0 0, .slice none 0 0] (0, 0) _ rfl (My.qp13 BK517.out) Try.underlying36 rfl (by kernel_rfl)) rfl ?_; exact ⟨_, _, _, My.q1, by first | exact Kd.R_nil _ _ _ _ _ | exact Kd.N_nil _ _ _ _ _ | exact Kd.V_nil _ _ _ _ _ | exact Kd.Q_nil _ _ _ _ _ | exact Kd.S_nil _ _ _ _ _, by first | exact Kd.R_nil _ _ _ _ _ | exact Kd.N_nil _ _ _ _ _ | exact Kd.V_nil _ _ _ _ _ | exact Kd.Q_nil _ _ _ _ _ | exact Kd.S_nil _ _ _ _ _, by first | exact Kd.R_nil _ _ _ _ _ | exact Kd.N_nil _ _ _ _ _ | exact Kd.V_nil _ _ _ _ _ | exact Kd.Q_nil _ _ _ _ _ | exact Kd.S_nil _ _ _ _ _, My.bA⟩
   ·replace c11 := Bool.eq_false_iff.mpr c11
    subst c11; rw [if_neg (show ¬ (false = true) by decide)] at H
    by_cases c14 : a0_6 = 1
    ·rw [if_pos c14] at H
     have c14b0 : (a0_6 == 1) = true := beq_iff_eq.mpr c14; have c14b1 : (a0_6 != 1) = false := bne_eq_false_iff_eq.mpr c14; clear c14
     by_cases c15 : a0_5 = 0
     ·rw [if_pos c15] at H
      have c15b0 : (a0_5 == 0) = true := beq_iff_eq.mpr c15; have c15b1 : (a0_5 != 0) = false := bne_eq_false_iff_eq.mpr c15; clear c15; simp only [Option.some.injEq, Prod.mk.injEq] at H; obtain ⟨rfl, rfl, rfl, rfl, rfl, rfl, rfl, rfl, rfl, rfl, rfl, rfl, rfl, rfl⟩ := H; have hnb16 := NB516_517.out; have hnc16 := NB517_516.out; obtain ⟨hcz17_0, hcz17_1, hcz17_2, hcz17_3, hcz17_4, hcz17_5, hcz17_6, hcz17_7, hcz17_8, hcz17_9⟩ := My.qc10 BK516.out; obtain ⟨hfz17_0, hfz17_1, hfz17_2, hfz17_3, hfz17_4, hfz17_5, hfz17_6, hfz17_7, hfz17_8, hfz17_9⟩ := My.qf10 BK516.out; obtain ⟨hcz18_0, hcz18_1, hcz18_2, hcz18_3, hcz18_4, hcz18_5, hcz18_6, hcz18_7, hcz18_8, hcz18_9, hcz18_10, hcz18_11, hcz18_12⟩ := My.qc13 BK517.out; obtain ⟨hfz18_0, hfz18_1, hfz18_2, hfz18_3, hfz18_4, hfz18_5, hfz18_6, hfz18_7, hfz18_8, hfz18_9, hfz18_10, hfz18_11, hfz18_12⟩ := My.qf13 BK517.out
      go_wp2
      refine bodyPost_ret (results_ct rfl _ _ gb517 36 #[.int .i64 0, .int .i64 0, .int .i64 0, .bool false, .string (⟨#[]⟩ : ByteArray), .string (⟨#[]⟩ : ByteArray), .int .i64 0, .int .i64 0, .int .i64 0, .int .i64 0, .slice none 0 0, .slice none 0 0, .slice none 0 0] (0, 0) _ rfl (My.qp13 BK517.out) Try.underlying36 rfl (by kernel_rfl)) rfl ?_; exact ⟨_, _, _, My.q1, by first | exact Kd.R_nil _ _ _ _ _ | exact Kd.N_nil _ _ _ _ _ | exact Kd.V_nil _ _ _ _ _ | exact Kd.Q_nil _ _ _ _ _ | exact Kd.S_nil _ _ _ _ _, by first | exact Kd.R_nil _ _ _ _ _ | exact Kd.N_nil _ _ _ _ _ | exact Kd.V_nil _ _ _ _ _ | exact Kd.Q_nil _ _ _ _ _ | exact Kd.S_nil _ _ _ _ _, by first | exact Kd.R_nil _ _ _ _ _ | exact Kd.N_nil _ _ _ _ _ | exact Kd.V_nil _ _ _ _ _ | exact Kd.Q_nil _ _ _ _ _ | exact Kd.S_nil _ _ _ _ _, My.bA⟩
     ·rw [if_neg c15] at H
      have c15b0 : (a0_5 == 0) = false := beq_eq_false_iff_ne.mpr c15; have c15b1 : (a0_5 != 0) = true := bne_iff_ne.mpr c15; replace H := Option.bind_eq_some_iff.mp H; obtain ⟨⟨t520, t523, t526⟩, A190, H⟩ := H; dsimp only at H; have A19 := Aside0.mk A190; clear A190; simp only [Option.some.injEq, Prod.mk.injEq] at H; obtain ⟨rfl, rfl, rfl, rfl, rfl, rfl, rfl, rfl, rfl, rfl, rfl, rfl, rfl, rfl⟩ := H; have hnb20 := NB516_517.out; have hnc20 := NB517_516.out; obtain ⟨hcz21_0, hcz21_1, hcz21_2, hcz21_3, hcz21_4, hcz21_5, hcz21_6, hcz21_7, hcz21_8, hcz21_9⟩ := My.qc10 BK516.out; obtain ⟨hfz21_0, hfz21_1, hfz21_2, hfz21_3, hfz21_4, hfz21_5, hfz21_6, hfz21_7, hfz21_8, hfz21_9⟩ := My.qf10 BK516.out
      go_wp2_with (first | ((with_reducible refine gate_callee (f := 21) rfl ?_); refine goesL_ (some 36) rfl rfl Try.func21 (by kernel_rfl) rfl #[.string a0_4, .string a0_3, .int .i64 a0_5] rfl My.ar ?_; (with_reducible refine (batonref06_Put.calls a0_4 a0_3 a0_5 t520 t523 t526 _ A19.out).mono ?_); rintro e w22 ⟨v521, v524, v527, rfl, ho0, ho1, ho2, hb⟩; refine ⟨_, rfl, ?_⟩; have HO522 := My.m (Kd.R_lower ho0 (below_size My.bA)); have HO525 := My.m (Kd.R_lower ho1 (below_size My.bA)); have HO528 := My.m (Kd.R_lower ho2 (below_size My.bA)); replace BK516 := My.m (My.kb BK516.out hb); replace BK517 := My.m (My.kb BK517.out hb); replace HB := My.m (below_step My.bA hb); (try clear ho0); (try clear ho1); (try clear ho2); obtain ⟨Ao23, co23, eo23⟩ := Kd.R_slice HO528.out; subst eo23; obtain ⟨Ao24, co24, eo24⟩ := Kd.R_slice HO525.out; subst eo24; obtain ⟨Ao25, co25, eo25⟩ := Kd.R_slice HO522.out; subst eo25; obtain ⟨hcz26_0, hcz26_1, hcz26_2, hcz26_3, hcz26_4, hcz26_5, hcz26_6, hcz26_7, hcz26_8, hcz26_9, hcz26_10, hcz26_11, hcz26_12⟩ := My.qc13 BK517.out; obtain ⟨hfz26_0, hfz26_1, hfz26_2, hfz26_3, hfz26_4, hfz26_5, hfz26_6, hfz26_7, hfz26_8, hfz26_9, hfz26_10, hfz26_11, hfz26_12⟩ := My.qf13 BK517.out))
      refine bodyPost_ret (results_ct rfl _ _ gb517 36 #[.int .i64 2, .int .i64 0, .int .i64 0, .bool true, .string (⟨#[]⟩ : ByteArray), .string (⟨#[]⟩ : ByteArray), .int .i64 0, .int .i64 0, .int .i64 0, .int .i64 0, .slice Ao25 t520.length co25, .slice Ao24 t523.length co24, .slice Ao23 t526.length co23] (0, 0) _ rfl (My.qp13 BK517.out) Try.underlying36 rfl (by kernel_rfl)) rfl ?_; exact ⟨_, _, _, My.q1, by (with_reducible repeat (first | apply Kd.R_alloc | apply Kd.R_drewN | apply Kd.R_drew)); exact Kd.R_mono (My.qr13 (Kd.R_types HO522.out BK517.out (by decide)) (fun _ hk => hk.2)) (fun _ hk => trivial), by (with_reducible repeat (first | apply Kd.R_alloc | apply Kd.R_drewN | apply Kd.R_drew)); exact Kd.R_mono (My.qr13 (Kd.R_types HO525.out BK517.out (by decide)) (fun _ hk => hk.2)) (fun _ hk => hk.1), by (with_reducible repeat (first | apply Kd.R_alloc | apply Kd.R_drewN | apply Kd.R_drew)); exact Kd.R_mono (My.qr13 (Kd.R_types HO528.out BK517.out (by decide)) (fun _ hk => hk.2)) (fun _ hk => hk.1), My.bA⟩
    ·rw [if_neg c14] at H
     have c14b0 : (a0_6 == 1) = false := beq_eq_false_iff_ne.mpr c14; have c14b1 : (a0_6 != 1) = true := bne_iff_ne.mpr c14; have HC27 := Aside0.mk H; clear H; have hnb28 := NB516_517.out; have hnc28 := NB517_516.out; obtain ⟨hcz29_0, hcz29_1, hcz29_2, hcz29_3, hcz29_4, hcz29_5, hcz29_6, hcz29_7, hcz29_8, hcz29_9⟩ := My.qc10 BK516.out; obtain ⟨hfz29_0, hfz29_1, hfz29_2, hfz29_3, hfz29_4, hfz29_5, hfz29_6, hfz29_7, hfz29_8, hfz29_9⟩ := My.qf10 BK516.out
     go_upto_if 38 with (fail)
     go_cut [38] (fun v38 wc => ∃ (kq : Nat) (x38_26 : Bool), v38 = .bool x38_26 ∧ Aside0 (batonref18_Ask.j1 kq t518 a0_6 x38_26 a0_0 a0_1 a0_2 a0_3 a0_4 a0_5 a0_6 a0_7 a0_8 a0_9 = some (r1, r2, r3, r4, r5, r6, r7, r8, r9, r10, r11, r12, r13, r14)) ∧ Aside0 (kq ≤ kj2) ∧ Aside0 (wc.heap[gb516]? = some (.cells #[.int .i64 a0_0, .string a0_1, .int .i64 a0_2, .string a0_3, .string a0_4, .int .i64 a0_5, .int .i64 a0_6, .int .i64 a0_7, .int .i64 a0_8, .int .i64 a0_9] 24 (0, 0))) ∧ Aside0 (wc.heap[gb517]? = some (.cells #[.int .i64 0, .int .i64 0, .int .i64 0, .bool false, .string (⟨#[]⟩ : ByteArray), .string (⟨#[]⟩ : ByteArray), .int .i64 0, .int .i64 0, .int .i64 0, .int .i64 0, (.slice none 0 0), (.slice none 0 0), (.slice none 0 0)] 36 (0, 0))) ∧ Aside0 (Below w.heap.size w wc))
     case first =>
      have H := HC27.out; clear HC27
      by_cases c30 : a0_6 = 2
      ·rw [if_pos c30] at H
       have c30b0 : (a0_6 == 2) = true := beq_iff_eq.mpr c30; have c30b1 : (a0_6 != 2) = false := bne_eq_false_iff_eq.mpr c30; clear c30; (first | rw [c30b0] | (simp only [i64_w, i32_w]; rw [c30b0]) | skip); have H' := Aside0.mk H; clear H
       go_wp2
       go_meet
       case rel => exact ⟨_, ((a0_6 == 2)), My.q0, H', ⟨by have := HJ2.out; first | omega | exact Nat.le_refl _⟩, ⟨My.Ka BK516.out⟩, ⟨My.Ka BK517.out⟩, ⟨My.bA⟩⟩
      ·rw [if_neg c30] at H
       have c30b0 : (a0_6 == 2) = false := beq_eq_false_iff_ne.mpr c30; have c30b1 : (a0_6 != 2) = true := bne_iff_ne.mpr c30; (first | rw [c30b0] | (simp only [i64_w, i32_w]; rw [c30b0]) | skip); have H' := Aside0.mk H; clear H
       go_wp2
       go_meet
       case rel => exact ⟨_, ((a0_6 == 6)), My.q0, H', ⟨by have := HJ2.out; first | omega | exact Nat.le_refl _⟩, ⟨My.Ka BK516.out⟩, ⟨My.Ka BK517.out⟩, ⟨My.bA⟩⟩
     case rest =>
      clear HC27; (try clear c1); (try clear c2); (try clear p2); (try clear c3); (try clear c6); (try clear c8); (try clear c9); (try clear c10); (try clear c11); (try clear c12); (try clear c14); (try clear c14b0); (try clear c14b1); (try clear c15); (try clear c15b0); (try clear c15b1); (try clear c16); (try clear c20); (try clear c21); (try clear c28); (try clear c30); (try clear c30b0); (try clear c30b1); (try clear hcz10_0); (try clear hcz10_1); (try clear hcz10_2); (try clear hcz10_3); (try clear hcz10_4); (try clear hcz10_5); (try clear hcz10_6); (try clear hcz10_7); (try clear hcz10_8); (try clear hcz10_9); (try clear hcz13_0); (try clear hcz13_1); (try clear hcz13_10); (try clear hcz13_11); (try clear hcz13_12); (try clear hcz13_2); (try clear hcz13_3); (try clear hcz13_4); (try clear hcz13_5); (try clear hcz13_6); (try clear hcz13_7); (try clear hcz13_8); (try clear hcz13_9); (try clear hcz17_0); (try clear hcz17_1); (try clear hcz17_2); (try clear hcz17_3); (try clear hcz17_4); (try clear hcz17_5); (try clear hcz17_6); (try clear hcz17_7); (try clear hcz17_8); (try clear hcz17_9); (try clear hcz18_0); (try clear hcz18_1); (try clear hcz18_10); (try clear hcz18_11); (try clear hcz18_12); (try clear hcz18_2); (try clear hcz18_3); (try clear hcz18_4); (try clear hcz18_5); (try clear hcz18_6); (try clear hcz18_7); (try clear hcz18_8); (try clear hcz18_9); (try clear hcz21_0); (try clear hcz21_1); (try clear hcz21_2); (try clear hcz21_3); (try clear hcz21_4); (try clear hcz21_5); (try clear hcz21_6); (try clear hcz21_7); (try clear hcz21_8); (try clear hcz21_9); (try clear hcz26_0); (try clear hcz26_1); (try clear hcz26_10); (try clear hcz26_11); (try clear hcz26_12); (try clear hcz26_2); (try clear hcz26_3); (try clear hcz26_4); (try clear hcz26_5); (try clear hcz26_6); (try clear hcz26_7); (try clear hcz26_8); (try clear hcz26_9); (try clear hcz29_0); (try clear hcz29_1); (try clear hcz29_2); (try clear hcz29_3); (try clear hcz29_4); (try clear hcz29_5); (try clear hcz29_6); (try clear hcz29_7); (try clear hcz29_8); (try clear hcz29_9); (try clear hcz7_0); (try clear hcz7_1); (try clear hcz7_2); (try clear hcz7_3); (try clear hcz7_4); (try clear hcz7_5); (try clear hcz7_6); (try clear hcz7_7); (try clear hcz7_8); (try clear hcz7_9); (try clear hfz10_0); (try clear hfz10_1); (try clear hfz10_2); (try clear hfz10_3); (try clear hfz10_4); (try clear hfz10_5); (try clear hfz10_6); (try clear hfz10_7); (try clear hfz10_8); (try clear hfz10_9); (try clear hfz13_0); (try clear hfz13_1); (try clear hfz13_10); (try clear hfz13_11); (try clear hfz13_12); (try clear hfz13_2); (try clear hfz13_3); (try clear hfz13_4); (try clear hfz13_5); (try clear hfz13_6); (try clear hfz13_7); (try clear hfz13_8); (try clear hfz13_9); (try clear hfz17_0); (try clear hfz17_1); (try clear hfz17_2); (try clear hfz17_3); (try clear hfz17_4); (try clear hfz17_5); (try clear hfz17_6); (try clear hfz17_7); (try clear hfz17_8); (try clear hfz17_9); (try clear hfz18_0); (try clear hfz18_1); (try clear hfz18_10); (try clear hfz18_11); (try clear hfz18_12); (try clear hfz18_2); (try clear hfz18_3); (try clear hfz18_4); (try clear hfz18_5); (try clear hfz18_6); (try clear hfz18_7); (try clear hfz18_8); (try clear hfz18_9); (try clear hfz21_0); (try clear hfz21_1); (try clear hfz21_2); (try clear hfz21_3); (try clear hfz21_4); (try clear hfz21_5); (try clear hfz21_6); (try clear hfz21_7); (try clear hfz21_8); (try clear hfz21_9); (try clear hfz26_0); (try clear hfz26_1); (try clear hfz26_10); (try clear hfz26_11); (try clear hfz26_12); (try clear hfz26_2); (try clear hfz26_3); (try clear hfz26_4); (try clear hfz26_5); (try clear hfz26_6); (try clear hfz26_7); (try clear hfz26_8); (try clear hfz26_9); (try clear hfz29_0); (try clear hfz29_1); (try clear hfz29_2); (try clear hfz29_3); (try clear hfz29_4); (try clear hfz29_5); (try clear hfz29_6); (try clear hfz29_7); (try clear hfz29_8); (try clear hfz29_9); (try clear hfz7_0); (try clear hfz7_1); (try clear hfz7_2); (try clear hfz7_3); (try clear hfz7_4); (try clear hfz7_5); (try clear hfz7_6); (try clear hfz7_7); (try clear hfz7_8); (try clear hfz7_9); (try clear p2); obtain ⟨kq, x38_26, rfl, HA, HJ26, BK516, BK517, HB⟩ := hcut
      cases kq with
      | zero => exact absurd HA.out (by simp [batonref18_Ask.j1])
      | succ kj26 =>
       have H := HA.out; clear HA; simp only [batonref18_Ask.j1] at H
       by_cases c31 : x38_26 = true
       ·subst c31
        rw [if_pos rfl] at H; simp only [Option.some.injEq, Prod.mk.injEq] at H; obtain ⟨rfl, rfl, rfl, rfl, rfl, rfl, rfl, rfl, rfl, rfl, rfl, rfl, rfl, rfl⟩ := H; have hnb32 := NB517_516.out; have hnc32 := NB516_517.out; obtain ⟨_, _, _, _, _, _, _, _, _, _, _, _, _⟩ := My.qc13 BK517.out; obtain ⟨_, _, _, _, _, _, _, _, _, _, _, _, _⟩ := My.qf13 BK517.out
        go_wp2
        refine bodyPost_ret (results_ct rfl _ _ gb517 36 #[.int .i64 1, .int .i64 0, .int .i64 0, .bool false, .string t518, .string (⟨#[]⟩ : ByteArray), .int .i64 0, .int .i64 0, .int .i64 0, .int .i64 0, .slice none 0 0, .slice none 0 0, .slice none 0 0] (0, 0) _ rfl (My.qp13 BK517.out) Try.underlying36 rfl (by kernel_rfl)) rfl ?_; exact ⟨_, _, _, My.q1, by first | exact Kd.R_nil _ _ _ _ _ | exact Kd.N_nil _ _ _ _ _ | exact Kd.V_nil _ _ _ _ _ | exact Kd.Q_nil _ _ _ _ _ | exact Kd.S_nil _ _ _ _ _, by first | exact Kd.R_nil _ _ _ _ _ | exact Kd.N_nil _ _ _ _ _ | exact Kd.V_nil _ _ _ _ _ | exact Kd.Q_nil _ _ _ _ _ | exact Kd.S_nil _ _ _ _ _, by first | exact Kd.R_nil _ _ _ _ _ | exact Kd.N_nil _ _ _ _ _ | exact Kd.V_nil _ _ _ _ _ | exact Kd.Q_nil _ _ _ _ _ | exact Kd.S_nil _ _ _ _ _, My.bA⟩
       ·replace c31 := Bool.eq_false_iff.mpr c31
        subst c31; rw [if_neg (show ¬ (false = true) by decide)] at H
        by_cases c34 : a0_6 = 3
        ·rw [if_pos c34] at H
         have c34b0 : (a0_6 == 3) = true := beq_iff_eq.mpr c34; have c34b1 : (a0_6 != 3) = false := bne_eq_false_iff_eq.mpr c34; clear c34; simp only [Option.some.injEq, Prod.mk.injEq] at H; obtain ⟨rfl, rfl, rfl, rfl, rfl, rfl, rfl, rfl, rfl, rfl, rfl, rfl, rfl, rfl⟩ := H; have hnb35 := NB516_517.out; have hnc35 := NB517_516.out; obtain ⟨_, _, _, _, _, _, _, _, _, _⟩ := My.qc10 BK516.out; obtain ⟨_, _, _, _, _, _, _, _, _, _⟩ := My.qf10 BK516.out; obtain ⟨_, _, _, _, _, _, _, _, _, _, _, _, _⟩ := My.qc13 BK517.out; obtain ⟨_, _, _, _, _, _, _, _, _, _, _, _, _⟩ := My.qf13 BK517.out
         go_wp2
         refine bodyPost_ret (results_ct rfl _ _ gb517 36 #[.int .i64 3, .int .i64 0, .int .i64 0, .bool false, .string t518, .string (⟨#[]⟩ : ByteArray), .int .i64 0, .int .i64 a0_8, .int .i64 0, .int .i64 0, .slice none 0 0, .slice none 0 0, .slice none 0 0] (0, 0) _ rfl (My.qp13 BK517.out) Try.underlying36 rfl (by kernel_rfl)) rfl ?_; exact ⟨_, _, _, My.q1, by first | exact Kd.R_nil _ _ _ _ _ | exact Kd.N_nil _ _ _ _ _ | exact Kd.V_nil _ _ _ _ _ | exact Kd.Q_nil _ _ _ _ _ | exact Kd.S_nil _ _ _ _ _, by first | exact Kd.R_nil _ _ _ _ _ | exact Kd.N_nil _ _ _ _ _ | exact Kd.V_nil _ _ _ _ _ | exact Kd.Q_nil _ _ _ _ _ | exact Kd.S_nil _ _ _ _ _, by first | exact Kd.R_nil _ _ _ _ _ | exact Kd.N_nil _ _ _ _ _ | exact Kd.V_nil _ _ _ _ _ | exact Kd.Q_nil _ _ _ _ _ | exact Kd.S_nil _ _ _ _ _, My.bA⟩
        ·rw [if_neg c34] at H
         have c34b0 : (a0_6 == 3) = false := beq_eq_false_iff_ne.mpr c34; have c34b1 : (a0_6 != 3) = true := bne_iff_ne.mpr c34
         by_cases c38 : a0_6 = 9
         ·rw [if_pos c38] at H
          have c38b0 : (a0_6 == 9) = true := beq_iff_eq.mpr c38; have c38b1 : (a0_6 != 9) = false := bne_eq_false_iff_eq.mpr c38; clear c38; replace H := Option.bind_eq_some_iff.mp H; obtain ⟨⟨t529, t530⟩, A390, H⟩ := H; dsimp only at H; have A39 := Aside0.mk A390; clear A390; replace H := Option.bind_eq_some_iff.mp H; obtain ⟨⟨t531, t534, t537⟩, A400, H⟩ := H; dsimp only at H; have A40 := Aside0.mk A400; clear A400; simp only [Option.some.injEq, Prod.mk.injEq] at H; obtain ⟨rfl, rfl, rfl, rfl, rfl, rfl, rfl, rfl, rfl, rfl, rfl, rfl, rfl, rfl⟩ := H; have hnb41 := NB516_517.out; have hnc41 := NB517_516.out; obtain ⟨_, _, _, _, _, _, _, _, _, _⟩ := My.qc10 BK516.out; obtain ⟨_, _, _, _, _, _, _, _, _, _⟩ := My.qf10 BK516.out
          go_wp2_with (first | ((with_reducible refine gate_callee (f := 22) rfl ?_); refine goesL_ (some 54) rfl rfl Try.func22 (by kernel_rfl) rfl #[.string a0_1] rfl My.ar ?_; (with_reducible refine (batonref02_Flag.calls kj26 a0_1 t529 t530 _ A39.out).mono ?_); rintro e w' ⟨rfl, ⟨nd, rfl⟩⟩; refine ⟨_, rfl, ?_⟩; (try (rw [drewN_self wc]; generalize hq_ : World.drewN wc _ = wc; have n0_ : Aside0 (wc.heap[gb516]? = some (.cells #[.int .i64 a0_0, .string a0_1, .int .i64 a0_2, .string a0_3, .string a0_4, .int .i64 a0_5, .int .i64 a0_6, .int .i64 a0_7, .int .i64 a0_8, .int .i64 a0_9] 24 (0, 0))) := ⟨by rw [← hq_]; exact (My.Ka BK516.out)⟩; have n1_ : Aside0 (wc.heap[gb517]? = some (.cells #[.int .i64 0, .int .i64 0, .int .i64 0, .bool false, .string (⟨#[]⟩ : ByteArray), .string (⟨#[]⟩ : ByteArray), .int .i64 0, .int .i64 0, .int .i64 0, .int .i64 0, .slice none 0 0, .slice none 0 0, .slice none 0 0] 36 (0, 0))) := ⟨by rw [← hq_]; exact (My.Ka BK517.out)⟩; have n2_ : Aside0 (Below w.heap.size w wc) := ⟨by rw [← hq_]; exact My.bA⟩; clear BK516 BK517 HB hq_; have BK516 := n0_; have BK517 := n1_; have HB := n2_; clear n0_ n1_ n2_))) | ((with_reducible refine gate_callee (f := 21) rfl ?_); refine goesL_ (some 58) rfl rfl Try.func21 (by kernel_rfl) rfl #[.string t529, .string (⟨#[]⟩ : ByteArray), .int .i64 0] rfl My.ar ?_; (with_reducible refine (batonref06_Put.calls t529 (⟨#[]⟩ : ByteArray) 0 t531 t534 t537 _ A40.out).mono ?_); rintro e w43 ⟨v532, v535, v538, rfl, ho0, ho1, ho2, hb⟩; refine ⟨_, rfl, ?_⟩; have HO533 := My.m (Kd.R_lower ho0 (below_size My.bA)); have HO536 := My.m (Kd.R_lower ho1 (below_size My.bA)); have HO539 := My.m (Kd.R_lower ho2 (below_size My.bA)); replace BK516 := My.m (My.kb BK516.out hb); replace BK517 := My.m (My.kb BK517.out hb); replace HB := My.m (below_step My.bA hb); (try clear ho0); (try clear ho1); (try clear ho2); obtain ⟨Ao44, co44, eo44⟩ := Kd.R_slice HO539.out; subst eo44; obtain ⟨Ao45, co45, eo45⟩ := Kd.R_slice HO536.out; subst eo45; obtain ⟨Ao46, co46, eo46⟩ := Kd.R_slice HO533.out; subst eo46; obtain ⟨_, _, _, _, _, _, _, _, _, _, _, _, _⟩ := My.qc13 BK517.out; obtain ⟨_, _, _, _, _, _, _, _, _, _, _, _, _⟩ := My.qf13 BK517.out))
          refine bodyPost_ret (results_ct rfl _ _ gb517 36 #[.int .i64 2, .int .i64 0, .int .i64 0, .bool true, .string (⟨#[]⟩ : ByteArray), .string (⟨#[]⟩ : ByteArray), .int .i64 0, .int .i64 0, .int .i64 0, .int .i64 0, .slice Ao46 t531.length co46, .slice Ao45 t534.length co45, .slice Ao44 t537.length co44] (0, 0) _ rfl (My.qp13 BK517.out) Try.underlying36 rfl (by kernel_rfl)) rfl ?_; exact ⟨_, _, _, My.q1, by (with_reducible repeat (first | apply Kd.R_alloc | apply Kd.R_drewN | apply Kd.R_drew)); exact Kd.R_mono (My.qr13 (Kd.R_types HO533.out BK517.out (by decide)) (fun _ hk => hk.2)) (fun _ hk => trivial), by (with_reducible repeat (first | apply Kd.R_alloc | apply Kd.R_drewN | apply Kd.R_drew)); exact Kd.R_mono (My.qr13 (Kd.R_types HO536.out BK517.out (by decide)) (fun _ hk => hk.2)) (fun _ hk => hk.1), by (with_reducible repeat (first | apply Kd.R_alloc | apply Kd.R_drewN | apply Kd.R_drew)); exact Kd.R_mono (My.qr13 (Kd.R_types HO539.out BK517.out (by decide)) (fun _ hk => hk.2)) (fun _ hk => hk.1), My.bA⟩
         ·rw [if_neg c38] at H
          have c38b0 : (a0_6 == 9) = false := beq_eq_false_iff_ne.mpr c38; have c38b1 : (a0_6 != 9) = true := bne_iff_ne.mpr c38
          by_cases c48 : a0_6 = 5
          ·rw [if_pos c48] at H
           have c48b0 : (a0_6 == 5) = true := beq_iff_eq.mpr c48; have c48b1 : (a0_6 != 5) = false := bne_eq_false_iff_eq.mpr c48; clear c48; obtain ⟨y540, hy540⟩ : ∃ y_ : List (S53), y_ = (([(⟨true, a0_4, (⟨#[]⟩ : ByteArray), 0⟩ : S53)] : List (S53))) := ⟨_, rfl⟩; (replace H : (some (2, 0, 0, true, (⟨#[]⟩ : ByteArray), (⟨#[]⟩ : ByteArray), 0, 0, 0, 0, ([] : List (S68)), y540, ([] : List (S53)), true)) = some (r1, r2, r3, r4, r5, r6, r7, r8, r9, r10, r11, r12, r13, r14) := by first | (rw [hy540]; with_reducible exact H) | (have H2_ := (Option.bind_some _ _).symm.trans H; rw [hy540]; with_reducible exact H2_) | (have H2_ := (Option.bind_some _ _).symm.trans H; with_reducible exact H2_) | with_reducible exact H | (rw [hy540]; exact H) | exact H); have Ny540 := Aside0.mk hy540; clear hy540; simp only [Option.some.injEq, Prod.mk.injEq] at H; obtain ⟨rfl, rfl, rfl, rfl, rfl, rfl, rfl, rfl, rfl, rfl, rfl, rfl, rfl, rfl⟩ := H; have hnb49 := NB516_517.out; have hnc49 := NB517_516.out; obtain ⟨_, _, _, _, _, _, _, _, _, _⟩ := My.qc10 BK516.out; obtain ⟨_, _, _, _, _, _, _, _, _, _⟩ := My.qf10 BK516.out
           go_wp2_with (first | ((with_reducible refine gate_dst (N := 65) rfl ?_); refine Kd.R_lit k53 _ 53 ?hg (N := 65) ?hd (xs := ([(⟨true, a0_4, (⟨#[]⟩ : ByteArray), 0⟩ : S53)] : List (S53))) (inner := [.bool true, .string a0_4, .string (⟨#[]⟩ : ByteArray), .int .i64 0]) (ok := fun _ => True) (okp := fun _ => True) ?hr ?hp (fun _ hk => hk) trivial (Below.refl _ _) (Nat.le_refl _) (by simp) ?_; (case hd => rfl); (case hg => rfl); (case hr => first | (go_simp; done) | (go_simp; rfl)); (case hp => exact (Reps.c4 (show Kd.M k53 _ _ _ (⟨true, a0_4, (⟨#[]⟩ : ByteArray), 0⟩ : S53) [.bool true, .string a0_4, .string (⟨#[]⟩ : ByteArray), .int .i64 0] from (k53_mkM _ _ _ (⟨true, a0_4, (⟨#[]⟩ : ByteArray), 0⟩ : S53) )) (Reps.none _ _))); intro v541 w51 ho52 hb hg_ hnew_; clear hg_ hnew_; (first | rw [← Ny540.out] at ho52 | (simp only [Int.reduceToNat] at ho52; rw [← Ny540.out] at ho52)); have HO542 := My.m (Kd.R_lower ho52 (below_size My.bA)); replace BK516 := My.m (My.kb BK516.out hb); replace BK517 := My.m (My.kb BK517.out hb); replace HB := My.m (below_step My.bA hb); clear hb ho52; obtain ⟨Ao53, co53, eo53⟩ := Kd.R_slice HO542.out; subst eo53; obtain ⟨_, _, _, _, _, _, _, _, _, _, _, _, _⟩ := My.qc13 BK517.out; obtain ⟨_, _, _, _, _, _, _, _, _, _, _, _, _⟩ := My.qf13 BK517.out))
           refine bodyPost_ret (results_ct rfl _ _ gb517 36 #[.int .i64 2, .int .i64 0, .int .i64 0, .bool true, .string (⟨#[]⟩ : ByteArray), .string (⟨#[]⟩ : ByteArray), .int .i64 0, .int .i64 0, .int .i64 0, .int .i64 0, .slice none 0 0, .slice Ao53 y540.length co53, .slice none 0 0] (0, 0) _ rfl (My.qp13 BK517.out) Try.underlying36 rfl (by kernel_rfl)) rfl ?_; exact ⟨_, _, _, My.q1, by first | exact Kd.R_nil _ _ _ _ _ | exact Kd.N_nil _ _ _ _ _ | exact Kd.V_nil _ _ _ _ _ | exact Kd.Q_nil _ _ _ _ _ | exact Kd.S_nil _ _ _ _ _, by (with_reducible repeat (first | apply Kd.R_alloc | apply Kd.R_drewN | apply Kd.R_drew)); exact Kd.R_mono (My.qr13 (Kd.R_types HO542.out BK517.out (by decide)) (fun _ hk => hk.2)) (fun _ hk => (by simp [Value.ownBlock])), by first | exact Kd.R_nil _ _ _ _ _ | exact Kd.N_nil _ _ _ _ _ | exact Kd.V_nil _ _ _ _ _ | exact Kd.Q_nil _ _ _ _ _ | exact Kd.S_nil _ _ _ _ _, My.bA⟩
          ·rw [if_neg c48] at H
           have c48b0 : (a0_6 == 5) = false := beq_eq_false_iff_ne.mpr c48; have c48b1 : (a0_6 != 5) = true := bne_iff_ne.mpr c48; simp only [Option.some.injEq, Prod.mk.injEq] at H; obtain ⟨rfl, rfl, rfl, rfl, rfl, rfl, rfl, rfl, rfl, rfl, rfl, rfl, rfl, rfl⟩ := H; have hnb55 := NB517_516.out; have hnc55 := NB516_517.out; obtain ⟨_, _, _, _, _, _, _, _, _, _, _, _, _⟩ := My.qc13 BK517.out; obtain ⟨_, _, _, _, _, _, _, _, _, _, _, _, _⟩ := My.qf13 BK517.out
           go_wp2
           refine bodyPost_ret (results_ct rfl _ _ gb517 36 #[.int .i64 0, .int .i64 0, .int .i64 0, .bool false, .string (⟨#[]⟩ : ByteArray), .string (⟨#[]⟩ : ByteArray), .int .i64 0, .int .i64 0, .int .i64 0, .int .i64 0, .slice none 0 0, .slice none 0 0, .slice none 0 0] (0, 0) _ rfl (My.qp13 BK517.out) Try.underlying36 rfl (by kernel_rfl)) rfl ?_; exact ⟨_, _, _, My.q1, by first | exact Kd.R_nil _ _ _ _ _ | exact Kd.N_nil _ _ _ _ _ | exact Kd.V_nil _ _ _ _ _ | exact Kd.Q_nil _ _ _ _ _ | exact Kd.S_nil _ _ _ _ _, by first | exact Kd.R_nil _ _ _ _ _ | exact Kd.N_nil _ _ _ _ _ | exact Kd.V_nil _ _ _ _ _ | exact Kd.Q_nil _ _ _ _ _ | exact Kd.S_nil _ _ _ _ _, by first | exact Kd.R_nil _ _ _ _ _ | exact Kd.N_nil _ _ _ _ _ | exact Kd.V_nil _ _ _ _ _ | exact Kd.Q_nil _ _ _ _ _ | exact Kd.S_nil _ _ _ _ _, My.bA⟩

/-! ### batonref02_Id: function 25 -/
mutual
def batonref02_Id.j0 : Nat → ByteArray → ByteArray → Bool → Option (Int × Bool)
 | 0, _, _, _ => none
 | k + 1, x0, x1, x21 => if x21 = true then (some (0, false)) else (batonref02_Id.l0 k x1 0 (x0.size : Int))
def batonref02_Id.l0 : Nat → ByteArray → Int → Int → Option (Int × Bool)
 | 0, _, _, _ => none
 | k + 1, x1, x6, x7 => if x7 < (x1.size : Int) then (if 0 ≤ x7 then (if (bt x1 x7) ≥ 48 then (batonref02_Id.j2 k x1 x6 x7 (decide ((bt x1 x7) ≤ 57))) else (batonref02_Id.j2 k x1 x6 x7 false)) else (none)) else (some (x6, true))
def batonref02_Id.j2 : Nat → ByteArray → Int → Int → Bool → Option (Int × Bool)
 | 0, _, _, _, _ => none
 | k + 1, x1, x6, x7, x30 => if x30 = true then (if 0 ≤ x7 then (if x7 < (x1.size : Int) then (batonref02_Id.l0 k x1 (wrap64 ((wrap64 (16 * x6)) + (((bt x1 x7) - 48) % 256))) (wrap64 (x7 + 1))) else (none)) else (none)) else (if 0 ≤ x7 then (if x7 < (x1.size : Int) then (if (bt x1 x7) ≥ 97 then (if (bt x1 x7) ≤ 102 then (batonref02_Id.l0 k x1 (wrap64 ((wrap64 ((wrap64 (16 * x6)) + (((bt x1 x7) - 97) % 256))) + 10)) (wrap64 (x7 + 1))) else (some (0, false))) else (some (0, false))) else (none)) else (none))
end
def batonref02_Id.f (k : Nat) (a0 : ByteArray) (a1 : ByteArray) : Option (Int × Bool) := if (wrap64 ((a1.size : Int) - 10)) = (a0.size : Int) then (if 0 ≤ (a0.size : Int) then (if (a0.size : Int) ≤ (a1.size : Int) then (batonref02_Id.j0 k a0 a1 ((a1.extract 0 ((a0.size : Int) : Int).toNat).toList != a0.toList)) else (none)) else (none)) else (batonref02_Id.j0 k a0 a1 true)
theorem batonref02_Id.mono_l : ∀ k, (∀ y0 y1 y2, LeO (batonref02_Id.j0 k y0 y1 y2) (batonref02_Id.j0 (k + 1) y0 y1 y2)) ∧ (∀ y0 y1 y2, LeO (batonref02_Id.l0 k y0 y1 y2) (batonref02_Id.l0 (k + 1) y0 y1 y2)) ∧ (∀ y0 y1 y2 y3, LeO (batonref02_Id.j2 k y0 y1 y2 y3) (batonref02_Id.j2 (k + 1) y0 y1 y2 y3))
 | 0 => ⟨fun _ _ _ r h => by simp [batonref02_Id.j0] at h, fun _ _ _ r h => by simp [batonref02_Id.l0] at h, fun _ _ _ _ r h => by simp [batonref02_Id.j2] at h⟩
 | k + 1 => by
  obtain ⟨ih0, ih1, ih2⟩ := batonref02_Id.mono_l k
  refine ⟨?_, ?_, ?_⟩
  ·intro y0 y1 y2
   unfold batonref02_Id.j0
   exact My.mono_
  ·intro y0 y1 y2
   unfold batonref02_Id.l0
   exact My.mono_
  ·intro y0 y1 y2 y3
   unfold batonref02_Id.j2
   exact My.mono_
theorem batonref02_Id.mono : ∀ a0 a1 k, LeO (batonref02_Id.f k a0 a1) (batonref02_Id.f (k + 1) a0 a1) := by
 intro a0 a1 k
 obtain ⟨ih0, ih1, ih2⟩ := batonref02_Id.mono_l k
 unfold batonref02_Id.f
 exact My.mono_
set_option maxHeartbeats 80000000 in
set_option maxRecDepth 100000 in
theorem batonref02_Id.calls (k : Nat) (a0 : ByteArray) (a1 : ByteArray) (r1 : Int) (r2 : Bool) (w : World) (h : batonref02_Id.f k a0 a1 = some (r1, r2)) :
  Calls Try.prog 25 #[.string a0, .string a1] w fun e w' => e = .returned (.tuple #[.int .i64 r1, .bool r2]) ∧ Drawn0 w w' := by
 have H := h; clear h; unfold batonref02_Id.f at H; have HC3 := Aside0.mk H; clear H
 go_enter Try.func25, Try.ntmps25
 go_upto_region 1 with (fail)
 go_cut [21] (fun v21 wc => ∃ (kq : Nat) (x21_2 : Bool), v21 = .bool x21_2 ∧ Aside0 (batonref02_Id.j0 kq a0 a1 x21_2 = some (r1, r2)) ∧ Aside0 (kq ≤ k) ∧ Drawn0 w wc)
 case first =>
  have H := HC3.out; clear HC3
  by_cases c4 : (wrap64 ((a1.size : Int) - 10)) = (a0.size : Int)
  ·rw [if_pos c4] at H
   have c4b0 : ((wrap64 ((a1.size : Int) - 10)) == (a0.size : Int)) = true := beq_iff_eq.mpr c4; have c4b1 : ((wrap64 ((a1.size : Int) - 10)) != (a0.size : Int)) = false := bne_eq_false_iff_eq.mpr c4; clear c4; (first | rw [c4b0] | (simp only [i64_w, i32_w]; rw [c4b0]) | skip)
   by_cases c5 : 0 ≤ (a0.size : Int)
   ·rw [if_pos c5] at H
    have c5b0 := eq_true c5; have c5b1 : decide (0 ≤ (a0.size : Int)) = true := decide_eq_true c5; clear c5
    by_cases c6 : (a0.size : Int) ≤ (a1.size : Int)
    ·rw [if_pos c6] at H
     have c6b0 := eq_true c6; have c6b1 : decide ((a0.size : Int) ≤ (a1.size : Int)) = true := decide_eq_true c6; clear c6; have H' := Aside0.mk H; clear H
     go_wp2
     go_meet
     case rel => exact ⟨_, (((a1.extract 0 ((a0.size : Int) : Int).toNat).toList != a0.toList)), My.q0, H', ⟨by first | omega | exact Nat.le_refl _⟩, My.dD⟩
    ·exact My.no c6 H
   ·exact My.no c5 H
  ·rw [if_neg c4] at H
   have c4b0 : ((wrap64 ((a1.size : Int) - 10)) == (a0.size : Int)) = false := beq_eq_false_iff_ne.mpr c4; have c4b1 : ((wrap64 ((a1.size : Int) - 10)) != (a0.size : Int)) = true := bne_iff_ne.mpr c4; (first | rw [c4b0] | (simp only [i64_w, i32_w]; rw [c4b0]) | skip); have H' := Aside0.mk H; clear H
   go_wp2
   go_meet
   case rel => exact ⟨_, (true), My.q0, H', ⟨by first | omega | exact Nat.le_refl _⟩, My.dD⟩
 case rest =>
  clear HC3; (try clear c2); (try clear p2); (try clear c4); (try clear c4b0); (try clear c4b1); (try clear c5); (try clear c5b0); (try clear c5b1); (try clear c6); (try clear c6b0); (try clear c6b1); (try clear p6); obtain ⟨kq, x21_2, rfl, HA, HJ2, ⟨mc2, rfl⟩⟩ := hcut
  cases kq with
  | zero => exact absurd HA.out (by simp [batonref02_Id.j0])
  | succ kj2 =>
   have H := HA.out; clear HA; simp only [batonref02_Id.j0] at H
   by_cases c7 : x21_2 = true
   ·subst c7
    rw [if_pos rfl] at H; simp only [Option.some.injEq, Prod.mk.injEq] at H; obtain ⟨rfl, rfl⟩ := H
    go_wp2
    go_ret2
    exact ⟨My.q0, My.dD⟩
   ·replace c7 := Bool.eq_false_iff.mpr c7
    subst c7; rw [if_neg (show ¬ (false = true) by decide)] at H; have H' := Aside0.mk H; clear H
    go_wp2
    go_loopg [6, 7] kj2 (fun kq v6 v7 w' => ∃ (x6_2 : Int) (x7_2 : Int), v6 = .int .i64 x6_2 ∧ v7 = .int .i64 x7_2 ∧ Aside0 (batonref02_Id.l0 kq a1 x6_2 x7_2 = some (r1, r2)) ∧ Aside0 (kq ≤ kj2) ∧ Drawn0 w w')
    case atStart => exact ⟨(0), ((a0.size : Int)), My.q0, My.q0, H', ⟨Nat.le_refl _⟩, My.dD⟩
    case round =>
     clear H'; (try clear c2); (try clear p2); (try clear c4); (try clear c4b0); (try clear c4b1); (try clear c5); (try clear c5b0); (try clear c5b1); (try clear c6); (try clear c6b0); (try clear c6b1); (try clear p6); (try clear c7); (try clear p2); (try clear p6); obtain ⟨x6_2, x7_2, rfl, rfl, HA, HK2, ⟨m2, rfl⟩⟩ := hrel
     cases gk with
     | zero => exact absurd HA.out (by simp [batonref02_Id.l0])
     | succ k2 =>
      have H := HA.out; clear HA; simp only [batonref02_Id.l0] at H
      by_cases c8 : x7_2 < (a1.size : Int)
      ·rw [if_pos c8] at H
       have c8b0 := decide_eq_true c8; clear c8; have HC9 := Aside0.mk H; clear H
       go_upto_region 8 with (fail)
       go_cut [30] (fun v30 wc => ∃ (kq : Nat) (x30_8 : Bool), v30 = .bool x30_8 ∧ Aside0 (batonref02_Id.j2 kq a1 x6_2 x7_2 x30_8 = some (r1, r2)) ∧ Aside0 (kq ≤ k2) ∧ Drawn0 w wc)
       case first =>
        have H := HC9.out; clear HC9
        by_cases c10 : 0 ≤ x7_2
        ·rw [if_pos c10] at H
         have c10b0 := decide_eq_true c10; clear c10; (first | rw [c10b0] | (simp only [i64_w, i32_w]; rw [c10b0]) | skip)
         by_cases c12 : (bt a1 x7_2) ≥ 48
         ·rw [if_pos c12] at H
          have c12b0 := decide_eq_true c12; clear c12; have H' := Aside0.mk H; clear H; have p11 : 0 ≤ (x7_2 : Int) := of_decide_eq_true My.as; have q11 : x7_2 < (a1.size : Int) := of_decide_eq_true My.as; have hx11 := bt_at a1 x7_2; replace p11 := eq_true p11; replace q11 := eq_true q11; have p13 : 0 ≤ (x7_2 : Int) := of_decide_eq_true My.as; have q13 : x7_2 < (a1.size : Int) := of_decide_eq_true My.as; have hx13 := bt_at a1 x7_2; replace p13 := eq_true p13; replace q13 := eq_true q13
          go_wp2
          go_meet
          case rel => exact ⟨_, (decide ((bt a1 x7_2) ≤ 57)), My.q0, H', ⟨by have := HJ2.out; have := HK2.out; first | omega | exact Nat.le_refl _⟩, My.dD⟩
         ·rw [if_neg c12] at H
          have c12b0 := decide_eq_false c12; clear c12; have H' := Aside0.mk H; clear H; have p11 : 0 ≤ (x7_2 : Int) := of_decide_eq_true My.as; have q11 : x7_2 < (a1.size : Int) := of_decide_eq_true My.as; have hx11 := bt_at a1 x7_2; replace p11 := eq_true p11; replace q11 := eq_true q11
          go_wp2
          go_meet
          case rel => exact ⟨_, (false), My.q0, H', ⟨by have := HJ2.out; have := HK2.out; first | omega | exact Nat.le_refl _⟩, My.dD⟩
        ·exact My.no c10 H
       case rest =>
        clear HC9; (try clear c1); (try clear p1); (try clear q1); (try clear hx1); (try clear c2); (try clear p2); (try clear c4); (try clear c4b0); (try clear c4b1); (try clear c5); (try clear c5b0); (try clear c5b1); (try clear c6); (try clear c6b0); (try clear c6b1); (try clear p6); (try clear c7); (try clear c8); (try clear c8b0); (try clear c10); (try clear c10b0); (try clear p11); (try clear q11); (try clear hx11); (try clear c12); (try clear c12b0); (try clear p13); (try clear q13); (try clear hx13); (try clear p11); (try clear p13); (try clear p2); (try clear p6); (try clear q11); (try clear q13); obtain ⟨kq, x30_8, rfl, HA, HJ8, ⟨mc8, rfl⟩⟩ := hcut
        cases kq with
        | zero => exact absurd HA.out (by simp [batonref02_Id.j2])
        | succ kj8 =>
         have H := HA.out; clear HA; simp only [batonref02_Id.j2] at H
         by_cases c14 : x30_8 = true
         ·subst c14
          rw [if_pos rfl] at H
          by_cases c15 : 0 ≤ x7_2
          ·rw [if_pos c15] at H
           have c15b0 := decide_eq_true c15; clear c15
           by_cases c16 : x7_2 < (a1.size : Int)
           ·rw [if_pos c16] at H
            have c16b0 := decide_eq_true c16; clear c16; have H' := Aside0.mk H; clear H; have p17 : 0 ≤ (x7_2 : Int) := of_decide_eq_true My.as; have q17 : x7_2 < (a1.size : Int) := of_decide_eq_true My.as; have hx17 := bt_at a1 x7_2; replace p17 := eq_true p17; replace q17 := eq_true q17
            go_wp2
            go_roundg kj8
            case measure => have := HJ2.out; have := HK2.out; have := HJ8.out; omega
            case rel => exact ⟨(wrap64 ((wrap64 (16 * x6_2)) + (((bt a1 x7_2) - 48) % 256))), (wrap64 (x7_2 + 1)), My.q0, My.q0, H', ⟨by have := HJ2.out; have := HK2.out; have := HJ8.out; omega⟩, My.dD⟩
           ·exact My.no c16 H
          ·exact My.no c15 H
         ·replace c14 := Bool.eq_false_iff.mpr c14
          subst c14; rw [if_neg (show ¬ (false = true) by decide)] at H
          by_cases c18 : 0 ≤ x7_2
          ·rw [if_pos c18] at H
           have c18b0 := decide_eq_true c18; clear c18
           by_cases c19 : x7_2 < (a1.size : Int)
           ·rw [if_pos c19] at H
            have c19b0 := decide_eq_true c19; clear c19
            by_cases c21 : (bt a1 x7_2) ≥ 97
            ·rw [if_pos c21] at H
             have c21b0 := decide_eq_true c21; clear c21
             by_cases c23 : (bt a1 x7_2) ≤ 102
             ·rw [if_pos c23] at H
              have c23b0 := decide_eq_true c23; clear c23; have H' := Aside0.mk H; clear H; have p20 : 0 ≤ (x7_2 : Int) := of_decide_eq_true My.as; have q20 : x7_2 < (a1.size : Int) := of_decide_eq_true My.as; have hx20 := bt_at a1 x7_2; replace p20 := eq_true p20; replace q20 := eq_true q20; have p22 : 0 ≤ (x7_2 : Int) := of_decide_eq_true My.as; have q22 : x7_2 < (a1.size : Int) := of_decide_eq_true My.as; have hx22 := bt_at a1 x7_2; replace p22 := eq_true p22; replace q22 := eq_true q22; have p24 : 0 ≤ (x7_2 : Int) := of_decide_eq_true My.as; have q24 : x7_2 < (a1.size : Int) := of_decide_eq_true My.as; have hx24 := bt_at a1 x7_2; replace p24 := eq_true p24; replace q24 := eq_true q24
              go_wp2
              go_roundg kj8
              case measure => have := HJ2.out; have := HK2.out; have := HJ8.out; omega
              case rel => exact ⟨(wrap64 ((wrap64 ((wrap64 (16 * x6_2)) + (((bt a1 x7_2) - 97) % 256))) + 10)), (wrap64 (x7_2 + 1)), My.q0, My.q0, H', ⟨by have := HJ2.out; have := HK2.out; have := HJ8.out; omega⟩, My.dD⟩
             ·rw [if_neg c23] at H
              have c23b0 := decide_eq_false c23; clear c23; simp only [Option.some.injEq, Prod.mk.injEq] at H; obtain ⟨rfl, rfl⟩ := H; have p20 : 0 ≤ (x7_2 : Int) := of_decide_eq_true My.as; have q20 : x7_2 < (a1.size : Int) := of_decide_eq_true My.as; have hx20 := bt_at a1 x7_2; replace p20 := eq_true p20; replace q20 := eq_true q20; have p22 : 0 ≤ (x7_2 : Int) := of_decide_eq_true My.as; have q22 : x7_2 < (a1.size : Int) := of_decide_eq_true My.as; have hx22 := bt_at a1 x7_2; replace p22 := eq_true p22; replace q22 := eq_true q22
              go_wp2
              go_ret2
              exact ⟨My.q0, My.dD⟩
            ·rw [if_neg c21] at H
             have c21b0 := decide_eq_false c21; clear c21; simp only [Option.some.injEq, Prod.mk.injEq] at H; obtain ⟨rfl, rfl⟩ := H; have p20 : 0 ≤ (x7_2 : Int) := of_decide_eq_true My.as; have q20 : x7_2 < (a1.size : Int) := of_decide_eq_true My.as; have hx20 := bt_at a1 x7_2; replace p20 := eq_true p20; replace q20 := eq_true q20
             go_wp2
             go_ret2
             exact ⟨My.q0, My.dD⟩
           ·exact My.no c19 H
          ·exact My.no c18 H
      ·rw [if_neg c8] at H
       have c8b0 := decide_eq_false c8; clear c8; simp only [Option.some.injEq, Prod.mk.injEq] at H; obtain ⟨rfl, rfl⟩ := H
       go_wp2
       go_ret2
       exact ⟨My.q0, My.dD⟩

end Go.Proofs.Ytdehdhkhcilckaa.PM
