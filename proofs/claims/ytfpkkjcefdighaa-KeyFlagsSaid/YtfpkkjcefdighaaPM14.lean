-- made by a program of this session (wip/tools/myprint.py over the kit's print) out of the translation; Lean checks it
import Derived.Test.YtfpkkjcefdighaaPM0
import Derived.Test.YtfpkkjcefdighaaPM13
namespace Go.Proofs.Ytfpkkjcefdighaa.PM
open Go.RowKit Go.Proofs.YtfpkkjcefdighaaW.PrintWords Go.Proofs.YtfpkkjcefdighaaW.PrintLast Go.Proofs.YtfpkkjcefdighaaW.PrintMore
attribute [local go_sem] max2_int min2_int max_two min_two max_three min_three max_four min_four   -- for this text's walks alone
set_option linter.unusedVariables false
set_option linter.unusedSimpArgs false

/-! ### batonref02_Prefix: function 11 -/
mutual
def batonref02_Prefix.j0 : Nat → ByteArray → ByteArray → Int → Bool → Option (ByteArray × Bool)
  | 0, _, _, _, _ => none
  | k + 1, x1, x6, x7, x10 => if x10 = true then (if ([108] : List UInt8) = ([] : List UInt8) then (some ((⟨#[]⟩ : ByteArray), false)) else ((batonref02_Name.f k x1).bind fun t132 => (if t132 = true then (if 1 + 1 ≤ 9223372036854775807 then (if 1 + x1.size ≤ 9223372036854775807 then (if (((⟨#[108]⟩ : ByteArray) ++ (⟨#[47]⟩ : ByteArray)) ++ x1).size + 1 ≤ 9223372036854775807 then (some ((((⟨#[108]⟩ : ByteArray) ++ (⟨#[47]⟩ : ByteArray)) ++ x1) ++ (⟨#[47]⟩ : ByteArray), true)) else (none)) else (none)) else (none)) else (some ((⟨#[]⟩ : ByteArray), false))))) else (if x7 = 4 then (if ([115] : List UInt8) = ([] : List UInt8) then (some ((⟨#[]⟩ : ByteArray), false)) else ((batonref02_Name.f k x1).bind fun t133 => (if t133 = true then (if 1 + 1 ≤ 9223372036854775807 then (if 1 + x1.size ≤ 9223372036854775807 then (if (((⟨#[115]⟩ : ByteArray) ++ (⟨#[47]⟩ : ByteArray)) ++ x1).size + 1 ≤ 9223372036854775807 then (some ((((⟨#[115]⟩ : ByteArray) ++ (⟨#[47]⟩ : ByteArray)) ++ x1) ++ (⟨#[47]⟩ : ByteArray), true)) else (none)) else (none)) else (none)) else (some ((⟨#[]⟩ : ByteArray), false))))) else (if x7 = 5 then (if ([101] : List UInt8) = ([] : List UInt8) then (some ((⟨#[]⟩ : ByteArray), false)) else ((batonref02_Name.f k x1).bind fun t134 => (if t134 = true then (if 1 + 1 ≤ 9223372036854775807 then (if 1 + x1.size ≤ 9223372036854775807 then (if (((⟨#[101]⟩ : ByteArray) ++ (⟨#[47]⟩ : ByteArray)) ++ x1).size + 1 ≤ 9223372036854775807 then (some ((((⟨#[101]⟩ : ByteArray) ++ (⟨#[47]⟩ : ByteArray)) ++ x1) ++ (⟨#[47]⟩ : ByteArray), true)) else (none)) else (none)) else (none)) else (some ((⟨#[]⟩ : ByteArray), false))))) else (if x7 = 6 then (if ([112] : List UInt8) = ([] : List UInt8) then (some ((⟨#[]⟩ : ByteArray), false)) else ((batonref02_Name.f k x1).bind fun t135 => (if t135 = true then (if 1 + 1 ≤ 9223372036854775807 then (if 1 + x1.size ≤ 9223372036854775807 then (if (((⟨#[112]⟩ : ByteArray) ++ (⟨#[47]⟩ : ByteArray)) ++ x1).size + 1 ≤ 9223372036854775807 then (some ((((⟨#[112]⟩ : ByteArray) ++ (⟨#[47]⟩ : ByteArray)) ++ x1) ++ (⟨#[47]⟩ : ByteArray), true)) else (none)) else (none)) else (none)) else (some ((⟨#[]⟩ : ByteArray), false))))) else (if x7 = 7 then (batonref02_Prefix.j1 k x1 x6 (x7 == 7)) else (batonref02_Prefix.j1 k x1 x6 (x7 == 8))))))
def batonref02_Prefix.j1 : Nat → ByteArray → ByteArray → Bool → Option (ByteArray × Bool)
  | 0, _, _, _ => none
  | k + 1, x1, x6, x19 => if x19 = true then (if ([113] : List UInt8) = ([] : List UInt8) then (some ((⟨#[]⟩ : ByteArray), false)) else ((batonref02_Name.f k x1).bind fun t136 => (if t136 = true then (if 1 + 1 ≤ 9223372036854775807 then (if 1 + x1.size ≤ 9223372036854775807 then (if (((⟨#[113]⟩ : ByteArray) ++ (⟨#[47]⟩ : ByteArray)) ++ x1).size + 1 ≤ 9223372036854775807 then (some ((((⟨#[113]⟩ : ByteArray) ++ (⟨#[47]⟩ : ByteArray)) ++ x1) ++ (⟨#[47]⟩ : ByteArray), true)) else (none)) else (none)) else (none)) else (some ((⟨#[]⟩ : ByteArray), false))))) else (if x6.toList = ([] : List UInt8) then (some ((⟨#[]⟩ : ByteArray), false)) else ((batonref02_Name.f k x1).bind fun t137 => (if t137 = true then (if x6.size + 1 ≤ 9223372036854775807 then (if (x6 ++ (⟨#[47]⟩ : ByteArray)).size + x1.size ≤ 9223372036854775807 then (if ((x6 ++ (⟨#[47]⟩ : ByteArray)) ++ x1).size + 1 ≤ 9223372036854775807 then (some (((x6 ++ (⟨#[47]⟩ : ByteArray)) ++ x1) ++ (⟨#[47]⟩ : ByteArray), true)) else (none)) else (none)) else (none)) else (some ((⟨#[]⟩ : ByteArray), false)))))
end
def batonref02_Prefix.f (k : Nat) (a0 : Int) (a1 : ByteArray) : Option (ByteArray × Bool) := if a0 = 1 then (if ([109] : List UInt8) = ([] : List UInt8) then (some ((⟨#[]⟩ : ByteArray), false)) else ((batonref02_Name.f k a1).bind fun t131 => (if t131 = true then (if 1 + 1 ≤ 9223372036854775807 then (if 1 + a1.size ≤ 9223372036854775807 then (if (((⟨#[109]⟩ : ByteArray) ++ (⟨#[47]⟩ : ByteArray)) ++ a1).size + 1 ≤ 9223372036854775807 then (some ((((⟨#[109]⟩ : ByteArray) ++ (⟨#[47]⟩ : ByteArray)) ++ a1) ++ (⟨#[47]⟩ : ByteArray), true)) else (none)) else (none)) else (none)) else (some ((⟨#[]⟩ : ByteArray), false))))) else (if a0 = 2 then (batonref02_Prefix.j0 k a1 (⟨#[]⟩ : ByteArray) a0 (a0 == 2)) else (batonref02_Prefix.j0 k a1 (⟨#[]⟩ : ByteArray) a0 (a0 == 3)))
theorem batonref02_Prefix.mono_l : ∀ k, (∀ y0 y1 y2 y3, LeO (batonref02_Prefix.j0 k y0 y1 y2 y3) (batonref02_Prefix.j0 (k + 1) y0 y1 y2 y3)) ∧ (∀ y0 y1 y2, LeO (batonref02_Prefix.j1 k y0 y1 y2) (batonref02_Prefix.j1 (k + 1) y0 y1 y2))
  | 0 => ⟨fun _ _ _ _ r h => by simp [batonref02_Prefix.j0] at h, fun _ _ _ r h => by simp [batonref02_Prefix.j1] at h⟩
  | k + 1 => by
    obtain ⟨ih0, ih1⟩ := batonref02_Prefix.mono_l k
    refine ⟨?_, ?_⟩
    · intro y0 y1 y2 y3
      unfold batonref02_Prefix.j0
      repeat' first
      | (with_reducible exact ih0 _ _ _ _)
      | (with_reducible exact ih1 _ _ _)
      | (with_reducible exact batonref02_Name.mono _ _)
      | (with_reducible exact LeO.refl _)
      | (with_reducible exact LeO.none _)
      | (with_reducible refine LeO.ite ?_ ?_)
      | (with_reducible refine LeO.bind ?_ (fun _ => ?_))
      | exact ih0 _ _ _ _
      | exact ih1 _ _ _
      | exact batonref02_Name.mono _ _
      | exact LeO.none _
      | refine LeO.ite ?_ ?_
      | refine LeO.bind ?_ (fun _ => ?_)
    · intro y0 y1 y2
      unfold batonref02_Prefix.j1
      repeat' first
      | (with_reducible exact ih0 _ _ _ _)
      | (with_reducible exact ih1 _ _ _)
      | (with_reducible exact batonref02_Name.mono _ _)
      | (with_reducible exact LeO.refl _)
      | (with_reducible exact LeO.none _)
      | (with_reducible refine LeO.ite ?_ ?_)
      | (with_reducible refine LeO.bind ?_ (fun _ => ?_))
      | exact ih0 _ _ _ _
      | exact ih1 _ _ _
      | exact batonref02_Name.mono _ _
      | exact LeO.none _
      | refine LeO.ite ?_ ?_
      | refine LeO.bind ?_ (fun _ => ?_)
theorem batonref02_Prefix.mono : ∀ a0 a1 k, LeO (batonref02_Prefix.f k a0 a1) (batonref02_Prefix.f (k + 1) a0 a1) := by
  intro a0 a1 k
  obtain ⟨ih0, ih1⟩ := batonref02_Prefix.mono_l k
  unfold batonref02_Prefix.f
  repeat' first
      | (with_reducible exact ih0 _ _ _ _)
      | (with_reducible exact ih1 _ _ _)
      | (with_reducible exact batonref02_Name.mono _ _)
      | (with_reducible exact LeO.refl _)
      | (with_reducible exact LeO.none _)
      | (with_reducible refine LeO.ite ?_ ?_)
      | (with_reducible refine LeO.bind ?_ (fun _ => ?_))
      | exact ih0 _ _ _ _
      | exact ih1 _ _ _
      | exact batonref02_Name.mono _ _
      | exact LeO.none _
      | refine LeO.ite ?_ ?_
      | refine LeO.bind ?_ (fun _ => ?_)
set_option maxHeartbeats 8000000 in
set_option maxRecDepth 100000 in
theorem batonref02_Prefix.calls (k : Nat) (a0 : Int) (a1 : ByteArray) (r1 : ByteArray) (r2 : Bool) (w : World) (h : batonref02_Prefix.f k a0 a1 = some (r1, r2)) :
    Calls Try.prog 11 #[.int .i64 a0, .string a1] w fun e w' => e = .returned (.tuple #[.string r1, .bool r2]) ∧ Drawn0 w w' := by
  have H : (if a0 = 1 then (if ([109] : List UInt8) = ([] : List UInt8) then (some ((⟨#[]⟩ : ByteArray), false)) else ((batonref02_Name.f k a1).bind fun t131 => (if t131 = true then (if 1 + 1 ≤ 9223372036854775807 then (if 1 + a1.size ≤ 9223372036854775807 then (if (((⟨#[109]⟩ : ByteArray) ++ (⟨#[47]⟩ : ByteArray)) ++ a1).size + 1 ≤ 9223372036854775807 then (some ((((⟨#[109]⟩ : ByteArray) ++ (⟨#[47]⟩ : ByteArray)) ++ a1) ++ (⟨#[47]⟩ : ByteArray), true)) else (none)) else (none)) else (none)) else (some ((⟨#[]⟩ : ByteArray), false))))) else (if a0 = 2 then (batonref02_Prefix.j0 k a1 (⟨#[]⟩ : ByteArray) a0 (a0 == 2)) else (batonref02_Prefix.j0 k a1 (⟨#[]⟩ : ByteArray) a0 (a0 == 3)))) = some (r1, r2) := h
  clear h
  by_cases c3 : a0 = 1
  · rw [if_pos c3] at H
    have c3b0 : (a0 == 1) = true := beq_iff_eq.mpr c3
    have c3b1 : (a0 != 1) = false := bne_eq_false_iff_eq.mpr c3
    clear c3
    by_cases c4 : ([109] : List UInt8) = ([] : List UInt8)
    · rw [if_pos c4] at H
      have c4b0 : (([109] : List UInt8) == ([] : List UInt8)) = true := beq_iff_eq.mpr c4
      have c4b1 : (([109] : List UInt8) != ([] : List UInt8)) = false := bne_eq_false_iff_eq.mpr c4
      clear c4
      simp only [Option.some.injEq, Prod.mk.injEq] at H
      obtain ⟨rfl, rfl⟩ := H
      go_enter Try.func11, Try.ntmps11
      go_wp2
      go_ret2
      exact ⟨by first | rfl | (simp; done) | (simp [*]; done) | exact absurd (by first | rfl | simp | decide +kernel) c49, by repeat (first | exact Drawn0.refl _ | apply Drawn0.step)⟩
    · rw [if_neg c4] at H
      have c4b0 : (([109] : List UInt8) == ([] : List UInt8)) = false := beq_eq_false_iff_ne.mpr c4
      have c4b1 : (([109] : List UInt8) != ([] : List UInt8)) = true := bne_iff_ne.mpr c4
      replace H := Option.bind_eq_some_iff.mp H
      obtain ⟨t131, A50, H⟩ := H
      replace H : (if t131 = true then (if 1 + 1 ≤ 9223372036854775807 then (if 1 + a1.size ≤ 9223372036854775807 then (if (((⟨#[109]⟩ : ByteArray) ++ (⟨#[47]⟩ : ByteArray)) ++ a1).size + 1 ≤ 9223372036854775807 then (some ((((⟨#[109]⟩ : ByteArray) ++ (⟨#[47]⟩ : ByteArray)) ++ a1) ++ (⟨#[47]⟩ : ByteArray), true)) else (none)) else (none)) else (none)) else (some ((⟨#[]⟩ : ByteArray), false))) = some (r1, r2) := H
      have A5 := Aside0.mk A50
      clear A50
      by_cases c6 : t131 = true
      · subst c6
        have H1 : (if 1 + 1 ≤ 9223372036854775807 then (if 1 + a1.size ≤ 9223372036854775807 then (if (((⟨#[109]⟩ : ByteArray) ++ (⟨#[47]⟩ : ByteArray)) ++ a1).size + 1 ≤ 9223372036854775807 then (some ((((⟨#[109]⟩ : ByteArray) ++ (⟨#[47]⟩ : ByteArray)) ++ a1) ++ (⟨#[47]⟩ : ByteArray), true)) else (none)) else (none)) else (none)) = some (r1, r2) := by rw [if_pos rfl] at H; exact H
        clear H
        have H := H1
        clear H1
        by_cases c7 : 1 + 1 ≤ 9223372036854775807
        · rw [if_pos c7] at H
          have c7b0 := eq_true c7
          have c7b1 : decide (1 + 1 ≤ 9223372036854775807) = true := decide_eq_true c7
          try have c7b2 : (9223372036854775807 < 1 + 1) = False := eq_false (Nat.not_lt.2 c7)
          by_cases c8 : 1 + a1.size ≤ 9223372036854775807
          · rw [if_pos c8] at H
            have c8b0 := eq_true c8
            have c8b1 : decide (1 + a1.size ≤ 9223372036854775807) = true := decide_eq_true c8
            try have c8b2 : (9223372036854775807 < 1 + a1.size) = False := eq_false (Nat.not_lt.2 c8)
            by_cases c9 : (((⟨#[109]⟩ : ByteArray) ++ (⟨#[47]⟩ : ByteArray)) ++ a1).size + 1 ≤ 9223372036854775807
            · rw [if_pos c9] at H
              have c9b0 := eq_true c9
              have c9b1 : decide ((((⟨#[109]⟩ : ByteArray) ++ (⟨#[47]⟩ : ByteArray)) ++ a1).size + 1 ≤ 9223372036854775807) = true := decide_eq_true c9
              try have c9b2 : (9223372036854775807 < (((⟨#[109]⟩ : ByteArray) ++ (⟨#[47]⟩ : ByteArray)) ++ a1).size + 1) = False := eq_false (Nat.not_lt.2 c9)
              try (have c9b5 := c9b2; simp only [ByteArray.size_append, ByteArray.size_extract, My.size_mk, List.size_toArray, List.length_cons, List.length_nil, Nat.zero_add, Nat.reduceAdd] at c9b5)
              try (have c9b6 : (9223372036854775807 < (((⟨#[109]⟩ : ByteArray) ++ (⟨#[47]⟩ : ByteArray)) ++ a1).size) = False := eq_false (by have := c9; omega); simp only [ByteArray.size_append, ByteArray.size_extract, My.size_mk, List.size_toArray, List.length_cons, List.length_nil, Nat.zero_add, Nat.reduceAdd] at c9b6)
              simp only [Option.some.injEq, Prod.mk.injEq] at H
              obtain ⟨rfl, rfl⟩ := H
              go_enter Try.func11, Try.ntmps11
              go_wp2_with (first | (go_at_call 19; (with_reducible refine (batonref02_Name.calls k a1 true _ A5.out).mono ?_); rintro e w' ⟨rfl, ⟨nd, rfl⟩⟩))
              go_ret2
              exact ⟨by first | rfl | (simp; done) | (simp [*]; done) | exact absurd (by first | rfl | simp | decide +kernel) c49, by repeat (first | exact Drawn0.refl _ | apply Drawn0.step)⟩
            · rw [if_neg c9] at H
              exact absurd H (by simp)
          · rw [if_neg c8] at H
            exact absurd H (by simp)
        · rw [if_neg c7] at H
          exact absurd H (by simp)
      · replace c6 := Bool.eq_false_iff.mpr c6
        subst c6
        have H1 : (some ((⟨#[]⟩ : ByteArray), false)) = some (r1, r2) := by rw [if_neg (show ¬ (false = true) by decide)] at H; exact H
        clear H
        have H := H1
        clear H1
        simp only [Option.some.injEq, Prod.mk.injEq] at H
        obtain ⟨rfl, rfl⟩ := H
        go_enter Try.func11, Try.ntmps11
        go_wp2_with (first | (go_at_call 19; (with_reducible refine (batonref02_Name.calls k a1 false _ A5.out).mono ?_); rintro e w' ⟨rfl, ⟨nd, rfl⟩⟩))
        go_ret2
        exact ⟨by first | rfl | (simp; done) | (simp [*]; done) | exact absurd (by first | rfl | simp | decide +kernel) c49, by repeat (first | exact Drawn0.refl _ | apply Drawn0.step)⟩
  · rw [if_neg c3] at H
    have c3b0 : (a0 == 1) = false := beq_eq_false_iff_ne.mpr c3
    have c3b1 : (a0 != 1) = true := bne_iff_ne.mpr c3
    have HC10 := Aside0.mk H
    clear H
    go_enter Try.func11, Try.ntmps11
    go_upto_if 10 with (fail)
    go_cut [10] (fun v10 wc => ∃ (kq : Nat) (x10_9 : Bool), v10 = .bool x10_9 ∧ Aside0 (batonref02_Prefix.j0 kq a1 (⟨#[]⟩ : ByteArray) a0 x10_9 = some (r1, r2)) ∧ Aside0 (kq ≤ k) ∧ Drawn0 w wc)
    case first =>
      have H := HC10.out
      clear HC10
      by_cases c11 : a0 = 2
      · rw [if_pos c11] at H
        have c11b0 : (a0 == 2) = true := beq_iff_eq.mpr c11
        have c11b1 : (a0 != 2) = false := bne_eq_false_iff_eq.mpr c11
        clear c11
        (first | rw [c11b0] | (simp only [i64_w, i32_w]; rw [c11b0]) | skip)
        have H' := Aside0.mk H
        clear H
        go_wp2
        go_meet
        case rel => exact ⟨_, ((a0 == 2)), (by first | rfl | (simp; done) | (simp [*]; done)), H', ⟨by first | omega | exact Nat.le_refl _⟩, by repeat (first | exact Drawn0.refl _ | apply Drawn0.step)⟩
      · rw [if_neg c11] at H
        have c11b0 : (a0 == 2) = false := beq_eq_false_iff_ne.mpr c11
        have c11b1 : (a0 != 2) = true := bne_iff_ne.mpr c11
        (first | rw [c11b0] | (simp only [i64_w, i32_w]; rw [c11b0]) | skip)
        have H' := Aside0.mk H
        clear H
        go_wp2
        go_meet
        case rel => exact ⟨_, ((a0 == 3)), (by first | rfl | (simp; done) | (simp [*]; done)), H', ⟨by first | omega | exact Nat.le_refl _⟩, by repeat (first | exact Drawn0.refl _ | apply Drawn0.step)⟩
    case rest =>
      clear HC10
      try clear c1
      try clear p2
      try clear c3
      try clear c3b0
      try clear c3b1
      try clear c4
      try clear c4b0
      try clear c4b1
      try clear c6
      try clear c7
      try clear c7b0
      try clear c7b1
      try clear c7b2
      try clear c8
      try clear c8b0
      try clear c8b1
      try clear c8b2
      try clear c9
      try clear c9b0
      try clear c9b1
      try clear c9b2
      try clear c11
      try clear c11b0
      try clear c11b1
      obtain ⟨kq, x10_9, rfl, HA, HJ9, ⟨mc9, rfl⟩⟩ := hcut
      cases kq with
      | zero => exact absurd HA.out (by simp [batonref02_Prefix.j0])
      | succ kj9 =>
        have H := HA.out
        clear HA
        simp only [batonref02_Prefix.j0] at H
        by_cases c12 : x10_9 = true
        · subst c12
          have H1 : (if ([108] : List UInt8) = ([] : List UInt8) then (some ((⟨#[]⟩ : ByteArray), false)) else ((batonref02_Name.f kj9 a1).bind fun t132 => (if t132 = true then (if 1 + 1 ≤ 9223372036854775807 then (if 1 + a1.size ≤ 9223372036854775807 then (if (((⟨#[108]⟩ : ByteArray) ++ (⟨#[47]⟩ : ByteArray)) ++ a1).size + 1 ≤ 9223372036854775807 then (some ((((⟨#[108]⟩ : ByteArray) ++ (⟨#[47]⟩ : ByteArray)) ++ a1) ++ (⟨#[47]⟩ : ByteArray), true)) else (none)) else (none)) else (none)) else (some ((⟨#[]⟩ : ByteArray), false))))) = some (r1, r2) := by rw [if_pos rfl] at H; exact H
          clear H
          have H := H1
          clear H1
          by_cases c13 : ([108] : List UInt8) = ([] : List UInt8)
          · rw [if_pos c13] at H
            have c13b0 : (([108] : List UInt8) == ([] : List UInt8)) = true := beq_iff_eq.mpr c13
            have c13b1 : (([108] : List UInt8) != ([] : List UInt8)) = false := bne_eq_false_iff_eq.mpr c13
            clear c13
            simp only [Option.some.injEq, Prod.mk.injEq] at H
            obtain ⟨rfl, rfl⟩ := H
            go_wp2
            go_ret2
            exact ⟨by first | rfl | (simp; done) | (simp [*]; done) | exact absurd (by first | rfl | simp | decide +kernel) c49, by repeat (first | exact Drawn0.refl _ | apply Drawn0.step)⟩
          · rw [if_neg c13] at H
            have c13b0 : (([108] : List UInt8) == ([] : List UInt8)) = false := beq_eq_false_iff_ne.mpr c13
            have c13b1 : (([108] : List UInt8) != ([] : List UInt8)) = true := bne_iff_ne.mpr c13
            replace H := Option.bind_eq_some_iff.mp H
            obtain ⟨t132, A140, H⟩ := H
            replace H : (if t132 = true then (if 1 + 1 ≤ 9223372036854775807 then (if 1 + a1.size ≤ 9223372036854775807 then (if (((⟨#[108]⟩ : ByteArray) ++ (⟨#[47]⟩ : ByteArray)) ++ a1).size + 1 ≤ 9223372036854775807 then (some ((((⟨#[108]⟩ : ByteArray) ++ (⟨#[47]⟩ : ByteArray)) ++ a1) ++ (⟨#[47]⟩ : ByteArray), true)) else (none)) else (none)) else (none)) else (some ((⟨#[]⟩ : ByteArray), false))) = some (r1, r2) := H
            have A14 := Aside0.mk A140
            clear A140
            by_cases c15 : t132 = true
            · subst c15
              have H1 : (if 1 + 1 ≤ 9223372036854775807 then (if 1 + a1.size ≤ 9223372036854775807 then (if (((⟨#[108]⟩ : ByteArray) ++ (⟨#[47]⟩ : ByteArray)) ++ a1).size + 1 ≤ 9223372036854775807 then (some ((((⟨#[108]⟩ : ByteArray) ++ (⟨#[47]⟩ : ByteArray)) ++ a1) ++ (⟨#[47]⟩ : ByteArray), true)) else (none)) else (none)) else (none)) = some (r1, r2) := by rw [if_pos rfl] at H; exact H
              clear H
              have H := H1
              clear H1
              by_cases c16 : 1 + 1 ≤ 9223372036854775807
              · rw [if_pos c16] at H
                have c16b0 := eq_true c16
                have c16b1 : decide (1 + 1 ≤ 9223372036854775807) = true := decide_eq_true c16
                try have c16b2 : (9223372036854775807 < 1 + 1) = False := eq_false (Nat.not_lt.2 c16)
                by_cases c17 : 1 + a1.size ≤ 9223372036854775807
                · rw [if_pos c17] at H
                  have c17b0 := eq_true c17
                  have c17b1 : decide (1 + a1.size ≤ 9223372036854775807) = true := decide_eq_true c17
                  try have c17b2 : (9223372036854775807 < 1 + a1.size) = False := eq_false (Nat.not_lt.2 c17)
                  by_cases c18 : (((⟨#[108]⟩ : ByteArray) ++ (⟨#[47]⟩ : ByteArray)) ++ a1).size + 1 ≤ 9223372036854775807
                  · rw [if_pos c18] at H
                    have c18b0 := eq_true c18
                    have c18b1 : decide ((((⟨#[108]⟩ : ByteArray) ++ (⟨#[47]⟩ : ByteArray)) ++ a1).size + 1 ≤ 9223372036854775807) = true := decide_eq_true c18
                    try have c18b2 : (9223372036854775807 < (((⟨#[108]⟩ : ByteArray) ++ (⟨#[47]⟩ : ByteArray)) ++ a1).size + 1) = False := eq_false (Nat.not_lt.2 c18)
                    try (have c18b5 := c18b2; simp only [ByteArray.size_append, ByteArray.size_extract, My.size_mk, List.size_toArray, List.length_cons, List.length_nil, Nat.zero_add, Nat.reduceAdd] at c18b5)
                    try (have c18b6 : (9223372036854775807 < (((⟨#[108]⟩ : ByteArray) ++ (⟨#[47]⟩ : ByteArray)) ++ a1).size) = False := eq_false (by have := c18; omega); simp only [ByteArray.size_append, ByteArray.size_extract, My.size_mk, List.size_toArray, List.length_cons, List.length_nil, Nat.zero_add, Nat.reduceAdd] at c18b6)
                    simp only [Option.some.injEq, Prod.mk.injEq] at H
                    obtain ⟨rfl, rfl⟩ := H
                    go_wp2_with (first | (go_at_call 19; (with_reducible refine (batonref02_Name.calls kj9 a1 true _ A14.out).mono ?_); rintro e w' ⟨rfl, ⟨nd, rfl⟩⟩))
                    go_ret2
                    exact ⟨by first | rfl | (simp; done) | (simp [*]; done) | exact absurd (by first | rfl | simp | decide +kernel) c49, by repeat (first | exact Drawn0.refl _ | apply Drawn0.step)⟩
                  · rw [if_neg c18] at H
                    exact absurd H (by simp)
                · rw [if_neg c17] at H
                  exact absurd H (by simp)
              · rw [if_neg c16] at H
                exact absurd H (by simp)
            · replace c15 := Bool.eq_false_iff.mpr c15
              subst c15
              have H1 : (some ((⟨#[]⟩ : ByteArray), false)) = some (r1, r2) := by rw [if_neg (show ¬ (false = true) by decide)] at H; exact H
              clear H
              have H := H1
              clear H1
              simp only [Option.some.injEq, Prod.mk.injEq] at H
              obtain ⟨rfl, rfl⟩ := H
              go_wp2_with (first | (go_at_call 19; (with_reducible refine (batonref02_Name.calls kj9 a1 false _ A14.out).mono ?_); rintro e w' ⟨rfl, ⟨nd, rfl⟩⟩))
              go_ret2
              exact ⟨by first | rfl | (simp; done) | (simp [*]; done) | exact absurd (by first | rfl | simp | decide +kernel) c49, by repeat (first | exact Drawn0.refl _ | apply Drawn0.step)⟩
        · replace c12 := Bool.eq_false_iff.mpr c12
          subst c12
          have H1 : (if a0 = 4 then (if ([115] : List UInt8) = ([] : List UInt8) then (some ((⟨#[]⟩ : ByteArray), false)) else ((batonref02_Name.f kj9 a1).bind fun t133 => (if t133 = true then (if 1 + 1 ≤ 9223372036854775807 then (if 1 + a1.size ≤ 9223372036854775807 then (if (((⟨#[115]⟩ : ByteArray) ++ (⟨#[47]⟩ : ByteArray)) ++ a1).size + 1 ≤ 9223372036854775807 then (some ((((⟨#[115]⟩ : ByteArray) ++ (⟨#[47]⟩ : ByteArray)) ++ a1) ++ (⟨#[47]⟩ : ByteArray), true)) else (none)) else (none)) else (none)) else (some ((⟨#[]⟩ : ByteArray), false))))) else (if a0 = 5 then (if ([101] : List UInt8) = ([] : List UInt8) then (some ((⟨#[]⟩ : ByteArray), false)) else ((batonref02_Name.f kj9 a1).bind fun t134 => (if t134 = true then (if 1 + 1 ≤ 9223372036854775807 then (if 1 + a1.size ≤ 9223372036854775807 then (if (((⟨#[101]⟩ : ByteArray) ++ (⟨#[47]⟩ : ByteArray)) ++ a1).size + 1 ≤ 9223372036854775807 then (some ((((⟨#[101]⟩ : ByteArray) ++ (⟨#[47]⟩ : ByteArray)) ++ a1) ++ (⟨#[47]⟩ : ByteArray), true)) else (none)) else (none)) else (none)) else (some ((⟨#[]⟩ : ByteArray), false))))) else (if a0 = 6 then (if ([112] : List UInt8) = ([] : List UInt8) then (some ((⟨#[]⟩ : ByteArray), false)) else ((batonref02_Name.f kj9 a1).bind fun t135 => (if t135 = true then (if 1 + 1 ≤ 9223372036854775807 then (if 1 + a1.size ≤ 9223372036854775807 then (if (((⟨#[112]⟩ : ByteArray) ++ (⟨#[47]⟩ : ByteArray)) ++ a1).size + 1 ≤ 9223372036854775807 then (some ((((⟨#[112]⟩ : ByteArray) ++ (⟨#[47]⟩ : ByteArray)) ++ a1) ++ (⟨#[47]⟩ : ByteArray), true)) else (none)) else (none)) else (none)) else (some ((⟨#[]⟩ : ByteArray), false))))) else (if a0 = 7 then (batonref02_Prefix.j1 kj9 a1 (⟨#[]⟩ : ByteArray) (a0 == 7)) else (batonref02_Prefix.j1 kj9 a1 (⟨#[]⟩ : ByteArray) (a0 == 8)))))) = some (r1, r2) := by rw [if_neg (show ¬ (false = true) by decide)] at H; exact H
          clear H
          have H := H1
          clear H1
          by_cases c19 : a0 = 4
          · rw [if_pos c19] at H
            have c19b0 : (a0 == 4) = true := beq_iff_eq.mpr c19
            have c19b1 : (a0 != 4) = false := bne_eq_false_iff_eq.mpr c19
            clear c19
            by_cases c20 : ([115] : List UInt8) = ([] : List UInt8)
            · rw [if_pos c20] at H
              have c20b0 : (([115] : List UInt8) == ([] : List UInt8)) = true := beq_iff_eq.mpr c20
              have c20b1 : (([115] : List UInt8) != ([] : List UInt8)) = false := bne_eq_false_iff_eq.mpr c20
              clear c20
              simp only [Option.some.injEq, Prod.mk.injEq] at H
              obtain ⟨rfl, rfl⟩ := H
              go_wp2
              go_ret2
              exact ⟨by first | rfl | (simp; done) | (simp [*]; done) | exact absurd (by first | rfl | simp | decide +kernel) c49, by repeat (first | exact Drawn0.refl _ | apply Drawn0.step)⟩
            · rw [if_neg c20] at H
              have c20b0 : (([115] : List UInt8) == ([] : List UInt8)) = false := beq_eq_false_iff_ne.mpr c20
              have c20b1 : (([115] : List UInt8) != ([] : List UInt8)) = true := bne_iff_ne.mpr c20
              replace H := Option.bind_eq_some_iff.mp H
              obtain ⟨t133, A210, H⟩ := H
              replace H : (if t133 = true then (if 1 + 1 ≤ 9223372036854775807 then (if 1 + a1.size ≤ 9223372036854775807 then (if (((⟨#[115]⟩ : ByteArray) ++ (⟨#[47]⟩ : ByteArray)) ++ a1).size + 1 ≤ 9223372036854775807 then (some ((((⟨#[115]⟩ : ByteArray) ++ (⟨#[47]⟩ : ByteArray)) ++ a1) ++ (⟨#[47]⟩ : ByteArray), true)) else (none)) else (none)) else (none)) else (some ((⟨#[]⟩ : ByteArray), false))) = some (r1, r2) := H
              have A21 := Aside0.mk A210
              clear A210
              by_cases c22 : t133 = true
              · subst c22
                have H1 : (if 1 + 1 ≤ 9223372036854775807 then (if 1 + a1.size ≤ 9223372036854775807 then (if (((⟨#[115]⟩ : ByteArray) ++ (⟨#[47]⟩ : ByteArray)) ++ a1).size + 1 ≤ 9223372036854775807 then (some ((((⟨#[115]⟩ : ByteArray) ++ (⟨#[47]⟩ : ByteArray)) ++ a1) ++ (⟨#[47]⟩ : ByteArray), true)) else (none)) else (none)) else (none)) = some (r1, r2) := by rw [if_pos rfl] at H; exact H
                clear H
                have H := H1
                clear H1
                by_cases c23 : 1 + 1 ≤ 9223372036854775807
                · rw [if_pos c23] at H
                  have c23b0 := eq_true c23
                  have c23b1 : decide (1 + 1 ≤ 9223372036854775807) = true := decide_eq_true c23
                  try have c23b2 : (9223372036854775807 < 1 + 1) = False := eq_false (Nat.not_lt.2 c23)
                  by_cases c24 : 1 + a1.size ≤ 9223372036854775807
                  · rw [if_pos c24] at H
                    have c24b0 := eq_true c24
                    have c24b1 : decide (1 + a1.size ≤ 9223372036854775807) = true := decide_eq_true c24
                    try have c24b2 : (9223372036854775807 < 1 + a1.size) = False := eq_false (Nat.not_lt.2 c24)
                    by_cases c25 : (((⟨#[115]⟩ : ByteArray) ++ (⟨#[47]⟩ : ByteArray)) ++ a1).size + 1 ≤ 9223372036854775807
                    · rw [if_pos c25] at H
                      have c25b0 := eq_true c25
                      have c25b1 : decide ((((⟨#[115]⟩ : ByteArray) ++ (⟨#[47]⟩ : ByteArray)) ++ a1).size + 1 ≤ 9223372036854775807) = true := decide_eq_true c25
                      try have c25b2 : (9223372036854775807 < (((⟨#[115]⟩ : ByteArray) ++ (⟨#[47]⟩ : ByteArray)) ++ a1).size + 1) = False := eq_false (Nat.not_lt.2 c25)
                      try (have c25b5 := c25b2; simp only [ByteArray.size_append, ByteArray.size_extract, My.size_mk, List.size_toArray, List.length_cons, List.length_nil, Nat.zero_add, Nat.reduceAdd] at c25b5)
                      try (have c25b6 : (9223372036854775807 < (((⟨#[115]⟩ : ByteArray) ++ (⟨#[47]⟩ : ByteArray)) ++ a1).size) = False := eq_false (by have := c25; omega); simp only [ByteArray.size_append, ByteArray.size_extract, My.size_mk, List.size_toArray, List.length_cons, List.length_nil, Nat.zero_add, Nat.reduceAdd] at c25b6)
                      simp only [Option.some.injEq, Prod.mk.injEq] at H
                      obtain ⟨rfl, rfl⟩ := H
                      go_wp2_with (first | (go_at_call 19; (with_reducible refine (batonref02_Name.calls kj9 a1 true _ A21.out).mono ?_); rintro e w' ⟨rfl, ⟨nd, rfl⟩⟩))
                      go_ret2
                      exact ⟨by first | rfl | (simp; done) | (simp [*]; done) | exact absurd (by first | rfl | simp | decide +kernel) c49, by repeat (first | exact Drawn0.refl _ | apply Drawn0.step)⟩
                    · rw [if_neg c25] at H
                      exact absurd H (by simp)
                  · rw [if_neg c24] at H
                    exact absurd H (by simp)
                · rw [if_neg c23] at H
                  exact absurd H (by simp)
              · replace c22 := Bool.eq_false_iff.mpr c22
                subst c22
                have H1 : (some ((⟨#[]⟩ : ByteArray), false)) = some (r1, r2) := by rw [if_neg (show ¬ (false = true) by decide)] at H; exact H
                clear H
                have H := H1
                clear H1
                simp only [Option.some.injEq, Prod.mk.injEq] at H
                obtain ⟨rfl, rfl⟩ := H
                go_wp2_with (first | (go_at_call 19; (with_reducible refine (batonref02_Name.calls kj9 a1 false _ A21.out).mono ?_); rintro e w' ⟨rfl, ⟨nd, rfl⟩⟩))
                go_ret2
                exact ⟨by first | rfl | (simp; done) | (simp [*]; done) | exact absurd (by first | rfl | simp | decide +kernel) c49, by repeat (first | exact Drawn0.refl _ | apply Drawn0.step)⟩
          · rw [if_neg c19] at H
            have c19b0 : (a0 == 4) = false := beq_eq_false_iff_ne.mpr c19
            have c19b1 : (a0 != 4) = true := bne_iff_ne.mpr c19
            by_cases c26 : a0 = 5
            · rw [if_pos c26] at H
              have c26b0 : (a0 == 5) = true := beq_iff_eq.mpr c26
              have c26b1 : (a0 != 5) = false := bne_eq_false_iff_eq.mpr c26
              clear c26
              by_cases c27 : ([101] : List UInt8) = ([] : List UInt8)
              · rw [if_pos c27] at H
                have c27b0 : (([101] : List UInt8) == ([] : List UInt8)) = true := beq_iff_eq.mpr c27
                have c27b1 : (([101] : List UInt8) != ([] : List UInt8)) = false := bne_eq_false_iff_eq.mpr c27
                clear c27
                simp only [Option.some.injEq, Prod.mk.injEq] at H
                obtain ⟨rfl, rfl⟩ := H
                go_wp2
                go_ret2
                exact ⟨by first | rfl | (simp; done) | (simp [*]; done) | exact absurd (by first | rfl | simp | decide +kernel) c49, by repeat (first | exact Drawn0.refl _ | apply Drawn0.step)⟩
              · rw [if_neg c27] at H
                have c27b0 : (([101] : List UInt8) == ([] : List UInt8)) = false := beq_eq_false_iff_ne.mpr c27
                have c27b1 : (([101] : List UInt8) != ([] : List UInt8)) = true := bne_iff_ne.mpr c27
                replace H := Option.bind_eq_some_iff.mp H
                obtain ⟨t134, A280, H⟩ := H
                replace H : (if t134 = true then (if 1 + 1 ≤ 9223372036854775807 then (if 1 + a1.size ≤ 9223372036854775807 then (if (((⟨#[101]⟩ : ByteArray) ++ (⟨#[47]⟩ : ByteArray)) ++ a1).size + 1 ≤ 9223372036854775807 then (some ((((⟨#[101]⟩ : ByteArray) ++ (⟨#[47]⟩ : ByteArray)) ++ a1) ++ (⟨#[47]⟩ : ByteArray), true)) else (none)) else (none)) else (none)) else (some ((⟨#[]⟩ : ByteArray), false))) = some (r1, r2) := H
                have A28 := Aside0.mk A280
                clear A280
                by_cases c29 : t134 = true
                · subst c29
                  have H1 : (if 1 + 1 ≤ 9223372036854775807 then (if 1 + a1.size ≤ 9223372036854775807 then (if (((⟨#[101]⟩ : ByteArray) ++ (⟨#[47]⟩ : ByteArray)) ++ a1).size + 1 ≤ 9223372036854775807 then (some ((((⟨#[101]⟩ : ByteArray) ++ (⟨#[47]⟩ : ByteArray)) ++ a1) ++ (⟨#[47]⟩ : ByteArray), true)) else (none)) else (none)) else (none)) = some (r1, r2) := by rw [if_pos rfl] at H; exact H
                  clear H
                  have H := H1
                  clear H1
                  by_cases c30 : 1 + 1 ≤ 9223372036854775807
                  · rw [if_pos c30] at H
                    have c30b0 := eq_true c30
                    have c30b1 : decide (1 + 1 ≤ 9223372036854775807) = true := decide_eq_true c30
                    try have c30b2 : (9223372036854775807 < 1 + 1) = False := eq_false (Nat.not_lt.2 c30)
                    by_cases c31 : 1 + a1.size ≤ 9223372036854775807
                    · rw [if_pos c31] at H
                      have c31b0 := eq_true c31
                      have c31b1 : decide (1 + a1.size ≤ 9223372036854775807) = true := decide_eq_true c31
                      try have c31b2 : (9223372036854775807 < 1 + a1.size) = False := eq_false (Nat.not_lt.2 c31)
                      by_cases c32 : (((⟨#[101]⟩ : ByteArray) ++ (⟨#[47]⟩ : ByteArray)) ++ a1).size + 1 ≤ 9223372036854775807
                      · rw [if_pos c32] at H
                        have c32b0 := eq_true c32
                        have c32b1 : decide ((((⟨#[101]⟩ : ByteArray) ++ (⟨#[47]⟩ : ByteArray)) ++ a1).size + 1 ≤ 9223372036854775807) = true := decide_eq_true c32
                        try have c32b2 : (9223372036854775807 < (((⟨#[101]⟩ : ByteArray) ++ (⟨#[47]⟩ : ByteArray)) ++ a1).size + 1) = False := eq_false (Nat.not_lt.2 c32)
                        try (have c32b5 := c32b2; simp only [ByteArray.size_append, ByteArray.size_extract, My.size_mk, List.size_toArray, List.length_cons, List.length_nil, Nat.zero_add, Nat.reduceAdd] at c32b5)
                        try (have c32b6 : (9223372036854775807 < (((⟨#[101]⟩ : ByteArray) ++ (⟨#[47]⟩ : ByteArray)) ++ a1).size) = False := eq_false (by have := c32; omega); simp only [ByteArray.size_append, ByteArray.size_extract, My.size_mk, List.size_toArray, List.length_cons, List.length_nil, Nat.zero_add, Nat.reduceAdd] at c32b6)
                        simp only [Option.some.injEq, Prod.mk.injEq] at H
                        obtain ⟨rfl, rfl⟩ := H
                        go_wp2_with (first | (go_at_call 19; (with_reducible refine (batonref02_Name.calls kj9 a1 true _ A28.out).mono ?_); rintro e w' ⟨rfl, ⟨nd, rfl⟩⟩))
                        go_ret2
                        exact ⟨by first | rfl | (simp; done) | (simp [*]; done) | exact absurd (by first | rfl | simp | decide +kernel) c49, by repeat (first | exact Drawn0.refl _ | apply Drawn0.step)⟩
                      · rw [if_neg c32] at H
                        exact absurd H (by simp)
                    · rw [if_neg c31] at H
                      exact absurd H (by simp)
                  · rw [if_neg c30] at H
                    exact absurd H (by simp)
                · replace c29 := Bool.eq_false_iff.mpr c29
                  subst c29
                  have H1 : (some ((⟨#[]⟩ : ByteArray), false)) = some (r1, r2) := by rw [if_neg (show ¬ (false = true) by decide)] at H; exact H
                  clear H
                  have H := H1
                  clear H1
                  simp only [Option.some.injEq, Prod.mk.injEq] at H
                  obtain ⟨rfl, rfl⟩ := H
                  go_wp2_with (first | (go_at_call 19; (with_reducible refine (batonref02_Name.calls kj9 a1 false _ A28.out).mono ?_); rintro e w' ⟨rfl, ⟨nd, rfl⟩⟩))
                  go_ret2
                  exact ⟨by first | rfl | (simp; done) | (simp [*]; done) | exact absurd (by first | rfl | simp | decide +kernel) c49, by repeat (first | exact Drawn0.refl _ | apply Drawn0.step)⟩
            · rw [if_neg c26] at H
              have c26b0 : (a0 == 5) = false := beq_eq_false_iff_ne.mpr c26
              have c26b1 : (a0 != 5) = true := bne_iff_ne.mpr c26
              by_cases c33 : a0 = 6
              · rw [if_pos c33] at H
                have c33b0 : (a0 == 6) = true := beq_iff_eq.mpr c33
                have c33b1 : (a0 != 6) = false := bne_eq_false_iff_eq.mpr c33
                clear c33
                by_cases c34 : ([112] : List UInt8) = ([] : List UInt8)
                · rw [if_pos c34] at H
                  have c34b0 : (([112] : List UInt8) == ([] : List UInt8)) = true := beq_iff_eq.mpr c34
                  have c34b1 : (([112] : List UInt8) != ([] : List UInt8)) = false := bne_eq_false_iff_eq.mpr c34
                  clear c34
                  simp only [Option.some.injEq, Prod.mk.injEq] at H
                  obtain ⟨rfl, rfl⟩ := H
                  go_wp2
                  go_ret2
                  exact ⟨by first | rfl | (simp; done) | (simp [*]; done) | exact absurd (by first | rfl | simp | decide +kernel) c49, by repeat (first | exact Drawn0.refl _ | apply Drawn0.step)⟩
                · rw [if_neg c34] at H
                  have c34b0 : (([112] : List UInt8) == ([] : List UInt8)) = false := beq_eq_false_iff_ne.mpr c34
                  have c34b1 : (([112] : List UInt8) != ([] : List UInt8)) = true := bne_iff_ne.mpr c34
                  replace H := Option.bind_eq_some_iff.mp H
                  obtain ⟨t135, A350, H⟩ := H
                  replace H : (if t135 = true then (if 1 + 1 ≤ 9223372036854775807 then (if 1 + a1.size ≤ 9223372036854775807 then (if (((⟨#[112]⟩ : ByteArray) ++ (⟨#[47]⟩ : ByteArray)) ++ a1).size + 1 ≤ 9223372036854775807 then (some ((((⟨#[112]⟩ : ByteArray) ++ (⟨#[47]⟩ : ByteArray)) ++ a1) ++ (⟨#[47]⟩ : ByteArray), true)) else (none)) else (none)) else (none)) else (some ((⟨#[]⟩ : ByteArray), false))) = some (r1, r2) := H
                  have A35 := Aside0.mk A350
                  clear A350
                  by_cases c36 : t135 = true
                  · subst c36
                    have H1 : (if 1 + 1 ≤ 9223372036854775807 then (if 1 + a1.size ≤ 9223372036854775807 then (if (((⟨#[112]⟩ : ByteArray) ++ (⟨#[47]⟩ : ByteArray)) ++ a1).size + 1 ≤ 9223372036854775807 then (some ((((⟨#[112]⟩ : ByteArray) ++ (⟨#[47]⟩ : ByteArray)) ++ a1) ++ (⟨#[47]⟩ : ByteArray), true)) else (none)) else (none)) else (none)) = some (r1, r2) := by rw [if_pos rfl] at H; exact H
                    clear H
                    have H := H1
                    clear H1
                    by_cases c37 : 1 + 1 ≤ 9223372036854775807
                    · rw [if_pos c37] at H
                      have c37b0 := eq_true c37
                      have c37b1 : decide (1 + 1 ≤ 9223372036854775807) = true := decide_eq_true c37
                      try have c37b2 : (9223372036854775807 < 1 + 1) = False := eq_false (Nat.not_lt.2 c37)
                      by_cases c38 : 1 + a1.size ≤ 9223372036854775807
                      · rw [if_pos c38] at H
                        have c38b0 := eq_true c38
                        have c38b1 : decide (1 + a1.size ≤ 9223372036854775807) = true := decide_eq_true c38
                        try have c38b2 : (9223372036854775807 < 1 + a1.size) = False := eq_false (Nat.not_lt.2 c38)
                        by_cases c39 : (((⟨#[112]⟩ : ByteArray) ++ (⟨#[47]⟩ : ByteArray)) ++ a1).size + 1 ≤ 9223372036854775807
                        · rw [if_pos c39] at H
                          have c39b0 := eq_true c39
                          have c39b1 : decide ((((⟨#[112]⟩ : ByteArray) ++ (⟨#[47]⟩ : ByteArray)) ++ a1).size + 1 ≤ 9223372036854775807) = true := decide_eq_true c39
                          try have c39b2 : (9223372036854775807 < (((⟨#[112]⟩ : ByteArray) ++ (⟨#[47]⟩ : ByteArray)) ++ a1).size + 1) = False := eq_false (Nat.not_lt.2 c39)
                          try (have c39b5 := c39b2; simp only [ByteArray.size_append, ByteArray.size_extract, My.size_mk, List.size_toArray, List.length_cons, List.length_nil, Nat.zero_add, Nat.reduceAdd] at c39b5)
                          try (have c39b6 : (9223372036854775807 < (((⟨#[112]⟩ : ByteArray) ++ (⟨#[47]⟩ : ByteArray)) ++ a1).size) = False := eq_false (by have := c39; omega); simp only [ByteArray.size_append, ByteArray.size_extract, My.size_mk, List.size_toArray, List.length_cons, List.length_nil, Nat.zero_add, Nat.reduceAdd] at c39b6)
                          simp only [Option.some.injEq, Prod.mk.injEq] at H
                          obtain ⟨rfl, rfl⟩ := H
                          go_wp2_with (first | (go_at_call 19; (with_reducible refine (batonref02_Name.calls kj9 a1 true _ A35.out).mono ?_); rintro e w' ⟨rfl, ⟨nd, rfl⟩⟩))
                          go_ret2
                          exact ⟨by first | rfl | (simp; done) | (simp [*]; done) | exact absurd (by first | rfl | simp | decide +kernel) c49, by repeat (first | exact Drawn0.refl _ | apply Drawn0.step)⟩
                        · rw [if_neg c39] at H
                          exact absurd H (by simp)
                      · rw [if_neg c38] at H
                        exact absurd H (by simp)
                    · rw [if_neg c37] at H
                      exact absurd H (by simp)
                  · replace c36 := Bool.eq_false_iff.mpr c36
                    subst c36
                    have H1 : (some ((⟨#[]⟩ : ByteArray), false)) = some (r1, r2) := by rw [if_neg (show ¬ (false = true) by decide)] at H; exact H
                    clear H
                    have H := H1
                    clear H1
                    simp only [Option.some.injEq, Prod.mk.injEq] at H
                    obtain ⟨rfl, rfl⟩ := H
                    go_wp2_with (first | (go_at_call 19; (with_reducible refine (batonref02_Name.calls kj9 a1 false _ A35.out).mono ?_); rintro e w' ⟨rfl, ⟨nd, rfl⟩⟩))
                    go_ret2
                    exact ⟨by first | rfl | (simp; done) | (simp [*]; done) | exact absurd (by first | rfl | simp | decide +kernel) c49, by repeat (first | exact Drawn0.refl _ | apply Drawn0.step)⟩
              · rw [if_neg c33] at H
                have c33b0 : (a0 == 6) = false := beq_eq_false_iff_ne.mpr c33
                have c33b1 : (a0 != 6) = true := bne_iff_ne.mpr c33
                have HC40 := Aside0.mk H
                clear H
                go_upto_if 19 with (fail)
                go_cut [19] (fun v19 wc => ∃ (kq : Nat) (x19_39 : Bool), v19 = .bool x19_39 ∧ Aside0 (batonref02_Prefix.j1 kq a1 (⟨#[]⟩ : ByteArray) x19_39 = some (r1, r2)) ∧ Aside0 (kq ≤ kj9) ∧ Drawn0 w wc)
                case first =>
                  have H := HC40.out
                  clear HC40
                  by_cases c41 : a0 = 7
                  · rw [if_pos c41] at H
                    have c41b0 : (a0 == 7) = true := beq_iff_eq.mpr c41
                    have c41b1 : (a0 != 7) = false := bne_eq_false_iff_eq.mpr c41
                    clear c41
                    (first | rw [c41b0] | (simp only [i64_w, i32_w]; rw [c41b0]) | skip)
                    have H' := Aside0.mk H
                    clear H
                    go_wp2
                    go_meet
                    case rel => exact ⟨_, ((a0 == 7)), (by first | rfl | (simp; done) | (simp [*]; done)), H', ⟨by have := HJ9.out; first | omega | exact Nat.le_refl _⟩, by repeat (first | exact Drawn0.refl _ | apply Drawn0.step)⟩
                  · rw [if_neg c41] at H
                    have c41b0 : (a0 == 7) = false := beq_eq_false_iff_ne.mpr c41
                    have c41b1 : (a0 != 7) = true := bne_iff_ne.mpr c41
                    (first | rw [c41b0] | (simp only [i64_w, i32_w]; rw [c41b0]) | skip)
                    have H' := Aside0.mk H
                    clear H
                    go_wp2
                    go_meet
                    case rel => exact ⟨_, ((a0 == 8)), (by first | rfl | (simp; done) | (simp [*]; done)), H', ⟨by have := HJ9.out; first | omega | exact Nat.le_refl _⟩, by repeat (first | exact Drawn0.refl _ | apply Drawn0.step)⟩
                case rest =>
                  clear HC40
                  try clear c1
                  try clear c2
                  try clear p2
                  try clear c3
                  try clear c3b0
                  try clear c3b1
                  try clear c4
                  try clear c4b0
                  try clear c4b1
                  try clear c6
                  try clear c7
                  try clear c7b0
                  try clear c7b1
                  try clear c7b2
                  try clear c8
                  try clear c8b0
                  try clear c8b1
                  try clear c8b2
                  try clear c9
                  try clear c9b0
                  try clear c9b1
                  try clear c9b2
                  try clear c11
                  try clear c11b0
                  try clear c11b1
                  try clear c12
                  try clear c13
                  try clear c13b0
                  try clear c13b1
                  try clear c15
                  try clear c16
                  try clear c16b0
                  try clear c16b1
                  try clear c16b2
                  try clear c17
                  try clear c17b0
                  try clear c17b1
                  try clear c17b2
                  try clear c18
                  try clear c18b0
                  try clear c18b1
                  try clear c18b2
                  try clear c19
                  try clear c19b0
                  try clear c19b1
                  try clear c20
                  try clear c20b0
                  try clear c20b1
                  try clear c22
                  try clear c23
                  try clear c23b0
                  try clear c23b1
                  try clear c23b2
                  try clear c24
                  try clear c24b0
                  try clear c24b1
                  try clear c24b2
                  try clear c25
                  try clear c25b0
                  try clear c25b1
                  try clear c25b2
                  try clear c26
                  try clear c26b0
                  try clear c26b1
                  try clear c27
                  try clear c27b0
                  try clear c27b1
                  try clear c29
                  try clear c30
                  try clear c30b0
                  try clear c30b1
                  try clear c30b2
                  try clear c31
                  try clear c31b0
                  try clear c31b1
                  try clear c31b2
                  try clear c32
                  try clear c32b0
                  try clear c32b1
                  try clear c32b2
                  try clear c33
                  try clear c33b0
                  try clear c33b1
                  try clear c34
                  try clear c34b0
                  try clear c34b1
                  try clear c36
                  try clear c37
                  try clear c37b0
                  try clear c37b1
                  try clear c37b2
                  try clear c38
                  try clear c38b0
                  try clear c38b1
                  try clear c38b2
                  try clear c39
                  try clear c39b0
                  try clear c39b1
                  try clear c39b2
                  try clear c41
                  try clear c41b0
                  try clear c41b1
                  try clear p2
                  obtain ⟨kq, x19_39, rfl, HA, HJ39, ⟨mc39, rfl⟩⟩ := hcut
                  cases kq with
                  | zero => exact absurd HA.out (by simp [batonref02_Prefix.j1])
                  | succ kj39 =>
                    have H := HA.out
                    clear HA
                    simp only [batonref02_Prefix.j1] at H
                    by_cases c42 : x19_39 = true
                    · subst c42
                      have H1 : (if ([113] : List UInt8) = ([] : List UInt8) then (some ((⟨#[]⟩ : ByteArray), false)) else ((batonref02_Name.f kj39 a1).bind fun t136 => (if t136 = true then (if 1 + 1 ≤ 9223372036854775807 then (if 1 + a1.size ≤ 9223372036854775807 then (if (((⟨#[113]⟩ : ByteArray) ++ (⟨#[47]⟩ : ByteArray)) ++ a1).size + 1 ≤ 9223372036854775807 then (some ((((⟨#[113]⟩ : ByteArray) ++ (⟨#[47]⟩ : ByteArray)) ++ a1) ++ (⟨#[47]⟩ : ByteArray), true)) else (none)) else (none)) else (none)) else (some ((⟨#[]⟩ : ByteArray), false))))) = some (r1, r2) := by rw [if_pos rfl] at H; exact H
                      clear H
                      have H := H1
                      clear H1
                      by_cases c43 : ([113] : List UInt8) = ([] : List UInt8)
                      · rw [if_pos c43] at H
                        have c43b0 : (([113] : List UInt8) == ([] : List UInt8)) = true := beq_iff_eq.mpr c43
                        have c43b1 : (([113] : List UInt8) != ([] : List UInt8)) = false := bne_eq_false_iff_eq.mpr c43
                        clear c43
                        simp only [Option.some.injEq, Prod.mk.injEq] at H
                        obtain ⟨rfl, rfl⟩ := H
                        go_wp2
                        go_ret2
                        exact ⟨by first | rfl | (simp; done) | (simp [*]; done) | exact absurd (by first | rfl | simp | decide +kernel) c49, by repeat (first | exact Drawn0.refl _ | apply Drawn0.step)⟩
                      · rw [if_neg c43] at H
                        have c43b0 : (([113] : List UInt8) == ([] : List UInt8)) = false := beq_eq_false_iff_ne.mpr c43
                        have c43b1 : (([113] : List UInt8) != ([] : List UInt8)) = true := bne_iff_ne.mpr c43
                        replace H := Option.bind_eq_some_iff.mp H
                        obtain ⟨t136, A440, H⟩ := H
                        replace H : (if t136 = true then (if 1 + 1 ≤ 9223372036854775807 then (if 1 + a1.size ≤ 9223372036854775807 then (if (((⟨#[113]⟩ : ByteArray) ++ (⟨#[47]⟩ : ByteArray)) ++ a1).size + 1 ≤ 9223372036854775807 then (some ((((⟨#[113]⟩ : ByteArray) ++ (⟨#[47]⟩ : ByteArray)) ++ a1) ++ (⟨#[47]⟩ : ByteArray), true)) else (none)) else (none)) else (none)) else (some ((⟨#[]⟩ : ByteArray), false))) = some (r1, r2) := H
                        have A44 := Aside0.mk A440
                        clear A440
                        by_cases c45 : t136 = true
                        · subst c45
                          have H1 : (if 1 + 1 ≤ 9223372036854775807 then (if 1 + a1.size ≤ 9223372036854775807 then (if (((⟨#[113]⟩ : ByteArray) ++ (⟨#[47]⟩ : ByteArray)) ++ a1).size + 1 ≤ 9223372036854775807 then (some ((((⟨#[113]⟩ : ByteArray) ++ (⟨#[47]⟩ : ByteArray)) ++ a1) ++ (⟨#[47]⟩ : ByteArray), true)) else (none)) else (none)) else (none)) = some (r1, r2) := by rw [if_pos rfl] at H; exact H
                          clear H
                          have H := H1
                          clear H1
                          by_cases c46 : 1 + 1 ≤ 9223372036854775807
                          · rw [if_pos c46] at H
                            have c46b0 := eq_true c46
                            have c46b1 : decide (1 + 1 ≤ 9223372036854775807) = true := decide_eq_true c46
                            try have c46b2 : (9223372036854775807 < 1 + 1) = False := eq_false (Nat.not_lt.2 c46)
                            by_cases c47 : 1 + a1.size ≤ 9223372036854775807
                            · rw [if_pos c47] at H
                              have c47b0 := eq_true c47
                              have c47b1 : decide (1 + a1.size ≤ 9223372036854775807) = true := decide_eq_true c47
                              try have c47b2 : (9223372036854775807 < 1 + a1.size) = False := eq_false (Nat.not_lt.2 c47)
                              by_cases c48 : (((⟨#[113]⟩ : ByteArray) ++ (⟨#[47]⟩ : ByteArray)) ++ a1).size + 1 ≤ 9223372036854775807
                              · rw [if_pos c48] at H
                                have c48b0 := eq_true c48
                                have c48b1 : decide ((((⟨#[113]⟩ : ByteArray) ++ (⟨#[47]⟩ : ByteArray)) ++ a1).size + 1 ≤ 9223372036854775807) = true := decide_eq_true c48
                                try have c48b2 : (9223372036854775807 < (((⟨#[113]⟩ : ByteArray) ++ (⟨#[47]⟩ : ByteArray)) ++ a1).size + 1) = False := eq_false (Nat.not_lt.2 c48)
                                try (have c48b5 := c48b2; simp only [ByteArray.size_append, ByteArray.size_extract, My.size_mk, List.size_toArray, List.length_cons, List.length_nil, Nat.zero_add, Nat.reduceAdd] at c48b5)
                                try (have c48b6 : (9223372036854775807 < (((⟨#[113]⟩ : ByteArray) ++ (⟨#[47]⟩ : ByteArray)) ++ a1).size) = False := eq_false (by have := c48; omega); simp only [ByteArray.size_append, ByteArray.size_extract, My.size_mk, List.size_toArray, List.length_cons, List.length_nil, Nat.zero_add, Nat.reduceAdd] at c48b6)
                                simp only [Option.some.injEq, Prod.mk.injEq] at H
                                obtain ⟨rfl, rfl⟩ := H
                                go_wp2_with (first | (go_at_call 19; (with_reducible refine (batonref02_Name.calls kj39 a1 true _ A44.out).mono ?_); rintro e w' ⟨rfl, ⟨nd, rfl⟩⟩))
                                go_ret2
                                exact ⟨by first | rfl | (simp; done) | (simp [*]; done) | exact absurd (by first | rfl | simp | decide +kernel) c49, by repeat (first | exact Drawn0.refl _ | apply Drawn0.step)⟩
                              · rw [if_neg c48] at H
                                exact absurd H (by simp)
                            · rw [if_neg c47] at H
                              exact absurd H (by simp)
                          · rw [if_neg c46] at H
                            exact absurd H (by simp)
                        · replace c45 := Bool.eq_false_iff.mpr c45
                          subst c45
                          have H1 : (some ((⟨#[]⟩ : ByteArray), false)) = some (r1, r2) := by rw [if_neg (show ¬ (false = true) by decide)] at H; exact H
                          clear H
                          have H := H1
                          clear H1
                          simp only [Option.some.injEq, Prod.mk.injEq] at H
                          obtain ⟨rfl, rfl⟩ := H
                          go_wp2_with (first | (go_at_call 19; (with_reducible refine (batonref02_Name.calls kj39 a1 false _ A44.out).mono ?_); rintro e w' ⟨rfl, ⟨nd, rfl⟩⟩))
                          go_ret2
                          exact ⟨by first | rfl | (simp; done) | (simp [*]; done) | exact absurd (by first | rfl | simp | decide +kernel) c49, by repeat (first | exact Drawn0.refl _ | apply Drawn0.step)⟩
                    · replace c42 := Bool.eq_false_iff.mpr c42
                      subst c42
                      have H1 : (if (⟨#[]⟩ : ByteArray).toList = ([] : List UInt8) then (some ((⟨#[]⟩ : ByteArray), false)) else ((batonref02_Name.f kj39 a1).bind fun t137 => (if t137 = true then (if (⟨#[]⟩ : ByteArray).size + 1 ≤ 9223372036854775807 then (if ((⟨#[]⟩ : ByteArray) ++ (⟨#[47]⟩ : ByteArray)).size + a1.size ≤ 9223372036854775807 then (if (((⟨#[]⟩ : ByteArray) ++ (⟨#[47]⟩ : ByteArray)) ++ a1).size + 1 ≤ 9223372036854775807 then (some ((((⟨#[]⟩ : ByteArray) ++ (⟨#[47]⟩ : ByteArray)) ++ a1) ++ (⟨#[47]⟩ : ByteArray), true)) else (none)) else (none)) else (none)) else (some ((⟨#[]⟩ : ByteArray), false))))) = some (r1, r2) := by rw [if_neg (show ¬ (false = true) by decide)] at H; exact H
                      clear H
                      have H := H1
                      clear H1
                      by_cases c49 : (⟨#[]⟩ : ByteArray).toList = ([] : List UInt8)
                      · rw [if_pos c49] at H
                        have c49b0 : ((⟨#[]⟩ : ByteArray).toList == ([] : List UInt8)) = true := beq_iff_eq.mpr c49
                        have c49b1 : ((⟨#[]⟩ : ByteArray).toList != ([] : List UInt8)) = false := bne_eq_false_iff_eq.mpr c49
                        clear c49
                        simp only [Option.some.injEq, Prod.mk.injEq] at H
                        obtain ⟨rfl, rfl⟩ := H
                        go_wp2
                        go_ret2
                        exact ⟨by first | rfl | (simp; done) | (simp [*]; done) | exact absurd (by first | rfl | simp | decide +kernel) c49, by repeat (first | exact Drawn0.refl _ | apply Drawn0.step)⟩
                      · rw [if_neg c49] at H
                        have c49b0 : ((⟨#[]⟩ : ByteArray).toList == ([] : List UInt8)) = false := beq_eq_false_iff_ne.mpr c49
                        have c49b1 : ((⟨#[]⟩ : ByteArray).toList != ([] : List UInt8)) = true := bne_iff_ne.mpr c49
                        replace H := Option.bind_eq_some_iff.mp H
                        obtain ⟨t137, A500, H⟩ := H
                        replace H : (if t137 = true then (if (⟨#[]⟩ : ByteArray).size + 1 ≤ 9223372036854775807 then (if ((⟨#[]⟩ : ByteArray) ++ (⟨#[47]⟩ : ByteArray)).size + a1.size ≤ 9223372036854775807 then (if (((⟨#[]⟩ : ByteArray) ++ (⟨#[47]⟩ : ByteArray)) ++ a1).size + 1 ≤ 9223372036854775807 then (some ((((⟨#[]⟩ : ByteArray) ++ (⟨#[47]⟩ : ByteArray)) ++ a1) ++ (⟨#[47]⟩ : ByteArray), true)) else (none)) else (none)) else (none)) else (some ((⟨#[]⟩ : ByteArray), false))) = some (r1, r2) := H
                        have A50 := Aside0.mk A500
                        clear A500
                        by_cases c51 : t137 = true
                        · subst c51
                          have H1 : (if (⟨#[]⟩ : ByteArray).size + 1 ≤ 9223372036854775807 then (if ((⟨#[]⟩ : ByteArray) ++ (⟨#[47]⟩ : ByteArray)).size + a1.size ≤ 9223372036854775807 then (if (((⟨#[]⟩ : ByteArray) ++ (⟨#[47]⟩ : ByteArray)) ++ a1).size + 1 ≤ 9223372036854775807 then (some ((((⟨#[]⟩ : ByteArray) ++ (⟨#[47]⟩ : ByteArray)) ++ a1) ++ (⟨#[47]⟩ : ByteArray), true)) else (none)) else (none)) else (none)) = some (r1, r2) := by rw [if_pos rfl] at H; exact H
                          clear H
                          have H := H1
                          clear H1
                          by_cases c52 : (⟨#[]⟩ : ByteArray).size + 1 ≤ 9223372036854775807
                          · rw [if_pos c52] at H
                            have c52b0 := eq_true c52
                            have c52b1 : decide ((⟨#[]⟩ : ByteArray).size + 1 ≤ 9223372036854775807) = true := decide_eq_true c52
                            try have c52b2 : (9223372036854775807 < (⟨#[]⟩ : ByteArray).size + 1) = False := eq_false (Nat.not_lt.2 c52)
                            by_cases c53 : ((⟨#[]⟩ : ByteArray) ++ (⟨#[47]⟩ : ByteArray)).size + a1.size ≤ 9223372036854775807
                            · rw [if_pos c53] at H
                              have c53b0 := eq_true c53
                              have c53b1 : decide (((⟨#[]⟩ : ByteArray) ++ (⟨#[47]⟩ : ByteArray)).size + a1.size ≤ 9223372036854775807) = true := decide_eq_true c53
                              try have c53b2 : (9223372036854775807 < ((⟨#[]⟩ : ByteArray) ++ (⟨#[47]⟩ : ByteArray)).size + a1.size) = False := eq_false (Nat.not_lt.2 c53)
                              try (have c53b5 := c53b2; simp only [ByteArray.size_append, ByteArray.size_extract, My.size_mk, List.size_toArray, List.length_cons, List.length_nil, Nat.zero_add, Nat.reduceAdd] at c53b5)
                              try (have c53b6 : (9223372036854775807 < ((⟨#[]⟩ : ByteArray) ++ (⟨#[47]⟩ : ByteArray)).size) = False := eq_false (by have := c53; omega); simp only [ByteArray.size_append, ByteArray.size_extract, My.size_mk, List.size_toArray, List.length_cons, List.length_nil, Nat.zero_add, Nat.reduceAdd] at c53b6)
                              by_cases c54 : (((⟨#[]⟩ : ByteArray) ++ (⟨#[47]⟩ : ByteArray)) ++ a1).size + 1 ≤ 9223372036854775807
                              · rw [if_pos c54] at H
                                have c54b0 := eq_true c54
                                have c54b1 : decide ((((⟨#[]⟩ : ByteArray) ++ (⟨#[47]⟩ : ByteArray)) ++ a1).size + 1 ≤ 9223372036854775807) = true := decide_eq_true c54
                                try have c54b2 : (9223372036854775807 < (((⟨#[]⟩ : ByteArray) ++ (⟨#[47]⟩ : ByteArray)) ++ a1).size + 1) = False := eq_false (Nat.not_lt.2 c54)
                                try (have c54b5 := c54b2; simp only [ByteArray.size_append, ByteArray.size_extract, My.size_mk, List.size_toArray, List.length_cons, List.length_nil, Nat.zero_add, Nat.reduceAdd] at c54b5)
                                try (have c54b6 : (9223372036854775807 < (((⟨#[]⟩ : ByteArray) ++ (⟨#[47]⟩ : ByteArray)) ++ a1).size) = False := eq_false (by have := c54; omega); simp only [ByteArray.size_append, ByteArray.size_extract, My.size_mk, List.size_toArray, List.length_cons, List.length_nil, Nat.zero_add, Nat.reduceAdd] at c54b6)
                                simp only [Option.some.injEq, Prod.mk.injEq] at H
                                obtain ⟨rfl, rfl⟩ := H
                                go_wp2_with (first | (go_at_call 19; (with_reducible refine (batonref02_Name.calls kj39 a1 true _ A50.out).mono ?_); rintro e w' ⟨rfl, ⟨nd, rfl⟩⟩))
                                go_ret2
                                exact ⟨by first | rfl | (simp; done) | (simp [*]; done) | exact absurd (by first | rfl | simp | decide +kernel) c49, by repeat (first | exact Drawn0.refl _ | apply Drawn0.step)⟩
                              · rw [if_neg c54] at H
                                exact absurd H (by simp)
                            · rw [if_neg c53] at H
                              exact absurd H (by simp)
                          · rw [if_neg c52] at H
                            exact absurd H (by simp)
                        · replace c51 := Bool.eq_false_iff.mpr c51
                          subst c51
                          have H1 : (some ((⟨#[]⟩ : ByteArray), false)) = some (r1, r2) := by rw [if_neg (show ¬ (false = true) by decide)] at H; exact H
                          clear H
                          have H := H1
                          clear H1
                          simp only [Option.some.injEq, Prod.mk.injEq] at H
                          obtain ⟨rfl, rfl⟩ := H
                          go_wp2_with (first | (go_at_call 19; (with_reducible refine (batonref02_Name.calls kj39 a1 false _ A50.out).mono ?_); rintro e w' ⟨rfl, ⟨nd, rfl⟩⟩))
                          go_ret2
                          exact ⟨by first | rfl | (simp; done) | (simp [*]; done) | exact absurd (by first | rfl | simp | decide +kernel) c49, by repeat (first | exact Drawn0.refl _ | apply Drawn0.step)⟩

end Go.Proofs.Ytfpkkjcefdighaa.PM
