-- made by a program of this session (wip/tools/myprint.py over the kit's print) out of the translation; Lean checks it
import Derived.Test.YtaebmmjhokjdbaaPM0
import Derived.Test.YtaebmmjhokjdbaaPM21
import Derived.Test.YtaebmmjhokjdbaaPM22
namespace Go.Proofs.Ytaebmmjhokjdbaa.PM
open Go.RowKit Go.Proofs.YtaebmmjhokjdbaaW.PrintWords Go.Proofs.YtaebmmjhokjdbaaW.PrintLast Go.Proofs.YtaebmmjhokjdbaaW.PrintMore
attribute [local go_sem] max2_int min2_int max_two min_two max_three min_three max_four min_four   -- for this text's walks alone
attribute [local go_sem high] Go.Proofs.Ytaebmmjhokjdbaa.My.str_leq Go.Proofs.Ytaebmmjhokjdbaa.My.str_gtr Go.Proofs.Ytaebmmjhokjdbaa.My.str_geq
set_option linter.unusedVariables false
set_option linter.unusedSimpArgs false

/-! ### batonref02_Name: function 52 -/
mutual
def batonref02_Name.j0 : Nat → ByteArray → Bool → Option (Bool)
  | 0, _, _ => none
  | k + 1, x0, x11 => if x11 = true then (some false) else (batonref02_Name.l0 k x0 0)
def batonref02_Name.l0 : Nat → ByteArray → Int → Option (Bool)
  | 0, _, _ => none
  | k + 1, x0, x3 => if x3 < (x0.size : Int) then (if 0 ≤ x3 then (if (bt x0 x3) < 97 then (if (bt x0 x3) < 48 then (some false) else (if (bt x0 x3) > 57 then (some false) else (batonref02_Name.l0 k x0 (wrap64 (x3 + 1))))) else (if (bt x0 x3) > 122 then (if (bt x0 x3) < 48 then (some false) else (if (bt x0 x3) > 57 then (some false) else (batonref02_Name.l0 k x0 (wrap64 (x3 + 1))))) else (batonref02_Name.l0 k x0 (wrap64 (x3 + 1))))) else (none)) else (some true)
end
def batonref02_Name.f (k : Nat) (a0 : ByteArray) : Option (Bool) := if (a0.size : Int) < 1 then (batonref02_Name.j0 k a0 true) else (batonref02_Name.j0 k a0 (decide ((a0.size : Int) > 12)))
theorem batonref02_Name.mono_l : ∀ k, (∀ y0 y1, LeO (batonref02_Name.j0 k y0 y1) (batonref02_Name.j0 (k + 1) y0 y1)) ∧ (∀ y0 y1, LeO (batonref02_Name.l0 k y0 y1) (batonref02_Name.l0 (k + 1) y0 y1))
  | 0 => ⟨fun _ _ r h => by simp [batonref02_Name.j0] at h, fun _ _ r h => by simp [batonref02_Name.l0] at h⟩
  | k + 1 => by
    obtain ⟨ih0, ih1⟩ := batonref02_Name.mono_l k
    refine ⟨?_, ?_⟩
    · intro y0 y1
      unfold batonref02_Name.j0
      exact My.mono_
    · intro y0 y1
      unfold batonref02_Name.l0
      exact My.mono_
theorem batonref02_Name.mono : ∀ a0 k, LeO (batonref02_Name.f k a0) (batonref02_Name.f (k + 1) a0) := by
  intro a0 k
  obtain ⟨ih0, ih1⟩ := batonref02_Name.mono_l k
  unfold batonref02_Name.f
  exact My.mono_
set_option maxHeartbeats 8000000 in
set_option maxRecDepth 100000 in
theorem batonref02_Name.calls (k : Nat) (a0 : ByteArray) (r : Bool) (w : World) (h : batonref02_Name.f k a0 = some r) :
    Calls Try.prog 52 #[.string a0] w fun e w' => e = .returned (.bool r) ∧ Drawn0 w w' := by
  have H : (if (a0.size : Int) < 1 then (batonref02_Name.j0 k a0 true) else (batonref02_Name.j0 k a0 (decide ((a0.size : Int) > 12)))) = some r := h; clear h; have HC2 := Aside0.mk H; clear H
  go_enter Try.func52, Try.ntmps52
  go_upto_region 1 with (fail)
  go_cut [11] (fun v11 wc => ∃ (kq : Nat) (x11_1 : Bool), v11 = .bool x11_1 ∧ Aside0 (batonref02_Name.j0 kq a0 x11_1 = some r) ∧ Aside0 (kq ≤ k) ∧ Drawn0 w wc)
  case first =>
    have H := HC2.out; clear HC2
    by_cases c3 : (a0.size : Int) < 1
    · rw [if_pos c3] at H
      have c3b0 := decide_eq_true c3; have c3b1 : decide (a0.size < 1) = true := decide_eq_true (by omega); clear c3; (first | rw [c3b0] | (simp only [i64_w, i32_w]; rw [c3b0]) | skip); have H' := Aside0.mk H; clear H
      go_wp2
      go_meet
      case rel => exact ⟨_, (true), My.q0, H', ⟨by first | omega | exact Nat.le_refl _⟩, My.dD⟩
    · rw [if_neg c3] at H
      have c3b0 := decide_eq_false c3; have c3b1 : decide (a0.size < 1) = false := decide_eq_false (by omega); clear c3; (first | rw [c3b0] | (simp only [i64_w, i32_w]; rw [c3b0]) | skip); have H' := Aside0.mk H; clear H
      go_wp2
      go_meet
      case rel => exact ⟨_, (decide ((a0.size : Int) > 12)), My.q0, H', ⟨by first | omega | exact Nat.le_refl _⟩, My.dD⟩
  case rest =>
    clear HC2; (try clear p2); (try clear c3); (try clear c3b0); (try clear c3b1); obtain ⟨kq, x11_1, rfl, HA, HJ1, ⟨mc1, rfl⟩⟩ := hcut
    cases kq with
    | zero => exact absurd HA.out (by simp [batonref02_Name.j0])
    | succ kj1 =>
      have H := HA.out; clear HA; simp only [batonref02_Name.j0] at H
      by_cases c4 : x11_1 = true
      · subst c4
        (have H1 : (some false) = some r := by rw [if_pos rfl] at H; exact H); clear H; have H := H1; clear H1; obtain rfl := Option.some.inj H
        go_wp2
        go_ret
        exact ⟨My.q0, My.dD⟩
      · replace c4 := Bool.eq_false_iff.mpr c4
        subst c4; (have H1 : (batonref02_Name.l0 kj1 a0 0) = some r := by rw [if_neg (show ¬ (false = true) by decide)] at H; exact H); clear H; have H := H1; clear H1; have H' := Aside0.mk H; clear H
        go_wp2
        go_loopg [3] kj1 (fun kq v3 w' => ∃ (x3_2 : Int), v3 = .int .i64 x3_2 ∧ Aside0 (batonref02_Name.l0 kq a0 x3_2 = some r) ∧ Aside0 (kq ≤ kj1) ∧ Drawn0 w w')
        case atStart => exact ⟨(0), My.q0, H', ⟨Nat.le_refl _⟩, My.dD⟩
        case round =>
          clear H'; (try clear c1); (try clear p2); (try clear c3); (try clear c3b0); (try clear c3b1); (try clear c4); (try clear p2); obtain ⟨x3_2, rfl, HA, HK2, ⟨m2, rfl⟩⟩ := hrel
          cases gk with
          | zero => exact absurd HA.out (by simp [batonref02_Name.l0])
          | succ k2 =>
            have H := HA.out; clear HA; simp only [batonref02_Name.l0] at H
            by_cases c5 : x3_2 < (a0.size : Int)
            · rw [if_pos c5] at H
              have c5b0 := decide_eq_true c5; clear c5
              by_cases c6 : 0 ≤ x3_2
              · rw [if_pos c6] at H
                have c6b0 := decide_eq_true c6; clear c6
                by_cases c8 : (bt a0 x3_2) < 97
                · rw [if_pos c8] at H
                  have c8b0 := decide_eq_true c8; clear c8
                  by_cases c10 : (bt a0 x3_2) < 48
                  · rw [if_pos c10] at H
                    have c10b0 := decide_eq_true c10; clear c10; obtain rfl := Option.some.inj H; have p7 : 0 ≤ (x3_2 : Int) := of_decide_eq_true My.as; have q7 : x3_2 < (a0.size : Int) := of_decide_eq_true My.as; have hx7 := bt_at a0 x3_2; replace p7 := eq_true p7; replace q7 := eq_true q7; have p9 : 0 ≤ (x3_2 : Int) := of_decide_eq_true My.as; have q9 : x3_2 < (a0.size : Int) := of_decide_eq_true My.as; have hx9 := bt_at a0 x3_2; replace p9 := eq_true p9; replace q9 := eq_true q9
                    go_wp2
                    go_ret
                    exact ⟨My.q0, My.dD⟩
                  · rw [if_neg c10] at H
                    have c10b0 := decide_eq_false c10; clear c10
                    by_cases c12 : (bt a0 x3_2) > 57
                    · rw [if_pos c12] at H
                      have c12b0 := decide_eq_true c12; clear c12; obtain rfl := Option.some.inj H; have p7 : 0 ≤ (x3_2 : Int) := of_decide_eq_true My.as; have q7 : x3_2 < (a0.size : Int) := of_decide_eq_true My.as; have hx7 := bt_at a0 x3_2; replace p7 := eq_true p7; replace q7 := eq_true q7; have p9 : 0 ≤ (x3_2 : Int) := of_decide_eq_true My.as; have q9 : x3_2 < (a0.size : Int) := of_decide_eq_true My.as; have hx9 := bt_at a0 x3_2; replace p9 := eq_true p9; replace q9 := eq_true q9; have p11 : 0 ≤ (x3_2 : Int) := of_decide_eq_true My.as; have q11 : x3_2 < (a0.size : Int) := of_decide_eq_true My.as; have hx11 := bt_at a0 x3_2; replace p11 := eq_true p11; replace q11 := eq_true q11
                      go_wp2
                      go_ret
                      exact ⟨My.q0, My.dD⟩
                    · rw [if_neg c12] at H
                      have c12b0 := decide_eq_false c12; clear c12; have H' := Aside0.mk H; clear H; have p7 : 0 ≤ (x3_2 : Int) := of_decide_eq_true My.as; have q7 : x3_2 < (a0.size : Int) := of_decide_eq_true My.as; have hx7 := bt_at a0 x3_2; replace p7 := eq_true p7; replace q7 := eq_true q7; have p9 : 0 ≤ (x3_2 : Int) := of_decide_eq_true My.as; have q9 : x3_2 < (a0.size : Int) := of_decide_eq_true My.as; have hx9 := bt_at a0 x3_2; replace p9 := eq_true p9; replace q9 := eq_true q9; have p11 : 0 ≤ (x3_2 : Int) := of_decide_eq_true My.as; have q11 : x3_2 < (a0.size : Int) := of_decide_eq_true My.as; have hx11 := bt_at a0 x3_2; replace p11 := eq_true p11; replace q11 := eq_true q11
                      go_wp2
                      go_roundg k2
                      case measure => have := HJ1.out; have := HK2.out; omega
                      case rel => exact ⟨(wrap64 (x3_2 + 1)), My.q0, H', ⟨by have := HJ1.out; have := HK2.out; omega⟩, My.dD⟩
                · rw [if_neg c8] at H
                  have c8b0 := decide_eq_false c8; clear c8
                  by_cases c14 : (bt a0 x3_2) > 122
                  · rw [if_pos c14] at H
                    have c14b0 := decide_eq_true c14; clear c14
                    by_cases c16 : (bt a0 x3_2) < 48
                    · rw [if_pos c16] at H
                      have c16b0 := decide_eq_true c16; clear c16; obtain rfl := Option.some.inj H; have p7 : 0 ≤ (x3_2 : Int) := of_decide_eq_true My.as; have q7 : x3_2 < (a0.size : Int) := of_decide_eq_true My.as; have hx7 := bt_at a0 x3_2; replace p7 := eq_true p7; replace q7 := eq_true q7; have p13 : 0 ≤ (x3_2 : Int) := of_decide_eq_true My.as; have q13 : x3_2 < (a0.size : Int) := of_decide_eq_true My.as; have hx13 := bt_at a0 x3_2; replace p13 := eq_true p13; replace q13 := eq_true q13; have p15 : 0 ≤ (x3_2 : Int) := of_decide_eq_true My.as; have q15 : x3_2 < (a0.size : Int) := of_decide_eq_true My.as; have hx15 := bt_at a0 x3_2; replace p15 := eq_true p15; replace q15 := eq_true q15
                      go_wp2
                      go_ret
                      exact ⟨My.q0, My.dD⟩
                    · rw [if_neg c16] at H
                      have c16b0 := decide_eq_false c16; clear c16
                      by_cases c18 : (bt a0 x3_2) > 57
                      · rw [if_pos c18] at H
                        have c18b0 := decide_eq_true c18; clear c18; obtain rfl := Option.some.inj H; have p7 : 0 ≤ (x3_2 : Int) := of_decide_eq_true My.as; have q7 : x3_2 < (a0.size : Int) := of_decide_eq_true My.as; have hx7 := bt_at a0 x3_2; replace p7 := eq_true p7; replace q7 := eq_true q7; have p13 : 0 ≤ (x3_2 : Int) := of_decide_eq_true My.as; have q13 : x3_2 < (a0.size : Int) := of_decide_eq_true My.as; have hx13 := bt_at a0 x3_2; replace p13 := eq_true p13; replace q13 := eq_true q13; have p15 : 0 ≤ (x3_2 : Int) := of_decide_eq_true My.as; have q15 : x3_2 < (a0.size : Int) := of_decide_eq_true My.as; have hx15 := bt_at a0 x3_2; replace p15 := eq_true p15; replace q15 := eq_true q15; have p17 : 0 ≤ (x3_2 : Int) := of_decide_eq_true My.as; have q17 : x3_2 < (a0.size : Int) := of_decide_eq_true My.as; have hx17 := bt_at a0 x3_2; replace p17 := eq_true p17; replace q17 := eq_true q17
                        go_wp2
                        go_ret
                        exact ⟨My.q0, My.dD⟩
                      · rw [if_neg c18] at H
                        have c18b0 := decide_eq_false c18; clear c18; have H' := Aside0.mk H; clear H; have p7 : 0 ≤ (x3_2 : Int) := of_decide_eq_true My.as; have q7 : x3_2 < (a0.size : Int) := of_decide_eq_true My.as; have hx7 := bt_at a0 x3_2; replace p7 := eq_true p7; replace q7 := eq_true q7; have p13 : 0 ≤ (x3_2 : Int) := of_decide_eq_true My.as; have q13 : x3_2 < (a0.size : Int) := of_decide_eq_true My.as; have hx13 := bt_at a0 x3_2; replace p13 := eq_true p13; replace q13 := eq_true q13; have p15 : 0 ≤ (x3_2 : Int) := of_decide_eq_true My.as; have q15 : x3_2 < (a0.size : Int) := of_decide_eq_true My.as; have hx15 := bt_at a0 x3_2; replace p15 := eq_true p15; replace q15 := eq_true q15; have p17 : 0 ≤ (x3_2 : Int) := of_decide_eq_true My.as; have q17 : x3_2 < (a0.size : Int) := of_decide_eq_true My.as; have hx17 := bt_at a0 x3_2; replace p17 := eq_true p17; replace q17 := eq_true q17
                        go_wp2
                        go_roundg k2
                        case measure => have := HJ1.out; have := HK2.out; omega
                        case rel => exact ⟨(wrap64 (x3_2 + 1)), My.q0, H', ⟨by have := HJ1.out; have := HK2.out; omega⟩, My.dD⟩
                  · rw [if_neg c14] at H
                    have c14b0 := decide_eq_false c14; clear c14; have H' := Aside0.mk H; clear H; have p7 : 0 ≤ (x3_2 : Int) := of_decide_eq_true My.as; have q7 : x3_2 < (a0.size : Int) := of_decide_eq_true My.as; have hx7 := bt_at a0 x3_2; replace p7 := eq_true p7; replace q7 := eq_true q7; have p13 : 0 ≤ (x3_2 : Int) := of_decide_eq_true My.as; have q13 : x3_2 < (a0.size : Int) := of_decide_eq_true My.as; have hx13 := bt_at a0 x3_2; replace p13 := eq_true p13; replace q13 := eq_true q13
                    go_wp2
                    go_roundg k2
                    case measure => have := HJ1.out; have := HK2.out; omega
                    case rel => exact ⟨(wrap64 (x3_2 + 1)), My.q0, H', ⟨by have := HJ1.out; have := HK2.out; omega⟩, My.dD⟩
              · exact My.no c6 H
            · rw [if_neg c5] at H
              have c5b0 := decide_eq_false c5; clear c5; obtain rfl := Option.some.inj H
              go_wp2
              go_ret
              exact ⟨My.q0, My.dD⟩

/-! ### batonref02_Prefix: function 34 -/
mutual
def batonref02_Prefix.j0 : Nat → ByteArray → ByteArray → Int → Bool → Option (ByteArray × Bool)
 | 0, _, _, _, _ => none
 | k + 1, x1, x6, x7, x10 => if x10 = true then (if ([108] : List UInt8) = ([] : List UInt8) then (some ((⟨#[]⟩ : ByteArray), false)) else ((batonref02_Name.f k x1).bind fun t449 => (if t449 = true then (if 1 + 1 ≤ 9223372036854775807 then (if 1 + x1.size ≤ 9223372036854775807 then (if (((⟨#[108]⟩ : ByteArray) ++ (⟨#[47]⟩ : ByteArray)) ++ x1).size + 1 ≤ 9223372036854775807 then (some ((((⟨#[108]⟩ : ByteArray) ++ (⟨#[47]⟩ : ByteArray)) ++ x1) ++ (⟨#[47]⟩ : ByteArray), true)) else (none)) else (none)) else (none)) else (some ((⟨#[]⟩ : ByteArray), false))))) else (if x7 = 4 then (if ([115] : List UInt8) = ([] : List UInt8) then (some ((⟨#[]⟩ : ByteArray), false)) else ((batonref02_Name.f k x1).bind fun t450 => (if t450 = true then (if 1 + 1 ≤ 9223372036854775807 then (if 1 + x1.size ≤ 9223372036854775807 then (if (((⟨#[115]⟩ : ByteArray) ++ (⟨#[47]⟩ : ByteArray)) ++ x1).size + 1 ≤ 9223372036854775807 then (some ((((⟨#[115]⟩ : ByteArray) ++ (⟨#[47]⟩ : ByteArray)) ++ x1) ++ (⟨#[47]⟩ : ByteArray), true)) else (none)) else (none)) else (none)) else (some ((⟨#[]⟩ : ByteArray), false))))) else (if x7 = 5 then (if ([101] : List UInt8) = ([] : List UInt8) then (some ((⟨#[]⟩ : ByteArray), false)) else ((batonref02_Name.f k x1).bind fun t451 => (if t451 = true then (if 1 + 1 ≤ 9223372036854775807 then (if 1 + x1.size ≤ 9223372036854775807 then (if (((⟨#[101]⟩ : ByteArray) ++ (⟨#[47]⟩ : ByteArray)) ++ x1).size + 1 ≤ 9223372036854775807 then (some ((((⟨#[101]⟩ : ByteArray) ++ (⟨#[47]⟩ : ByteArray)) ++ x1) ++ (⟨#[47]⟩ : ByteArray), true)) else (none)) else (none)) else (none)) else (some ((⟨#[]⟩ : ByteArray), false))))) else (if x7 = 6 then (if ([112] : List UInt8) = ([] : List UInt8) then (some ((⟨#[]⟩ : ByteArray), false)) else ((batonref02_Name.f k x1).bind fun t452 => (if t452 = true then (if 1 + 1 ≤ 9223372036854775807 then (if 1 + x1.size ≤ 9223372036854775807 then (if (((⟨#[112]⟩ : ByteArray) ++ (⟨#[47]⟩ : ByteArray)) ++ x1).size + 1 ≤ 9223372036854775807 then (some ((((⟨#[112]⟩ : ByteArray) ++ (⟨#[47]⟩ : ByteArray)) ++ x1) ++ (⟨#[47]⟩ : ByteArray), true)) else (none)) else (none)) else (none)) else (some ((⟨#[]⟩ : ByteArray), false))))) else (if x7 = 7 then (batonref02_Prefix.j1 k x1 x6 (x7 == 7)) else (batonref02_Prefix.j1 k x1 x6 (x7 == 8))))))
def batonref02_Prefix.j1 : Nat → ByteArray → ByteArray → Bool → Option (ByteArray × Bool)
 | 0, _, _, _ => none
 | k + 1, x1, x6, x19 => if x19 = true then (if ([113] : List UInt8) = ([] : List UInt8) then (some ((⟨#[]⟩ : ByteArray), false)) else ((batonref02_Name.f k x1).bind fun t453 => (if t453 = true then (if 1 + 1 ≤ 9223372036854775807 then (if 1 + x1.size ≤ 9223372036854775807 then (if (((⟨#[113]⟩ : ByteArray) ++ (⟨#[47]⟩ : ByteArray)) ++ x1).size + 1 ≤ 9223372036854775807 then (some ((((⟨#[113]⟩ : ByteArray) ++ (⟨#[47]⟩ : ByteArray)) ++ x1) ++ (⟨#[47]⟩ : ByteArray), true)) else (none)) else (none)) else (none)) else (some ((⟨#[]⟩ : ByteArray), false))))) else (if x6.toList = ([] : List UInt8) then (some ((⟨#[]⟩ : ByteArray), false)) else ((batonref02_Name.f k x1).bind fun t454 => (if t454 = true then (if x6.size + 1 ≤ 9223372036854775807 then (if (x6 ++ (⟨#[47]⟩ : ByteArray)).size + x1.size ≤ 9223372036854775807 then (if ((x6 ++ (⟨#[47]⟩ : ByteArray)) ++ x1).size + 1 ≤ 9223372036854775807 then (some (((x6 ++ (⟨#[47]⟩ : ByteArray)) ++ x1) ++ (⟨#[47]⟩ : ByteArray), true)) else (none)) else (none)) else (none)) else (some ((⟨#[]⟩ : ByteArray), false)))))
end
def batonref02_Prefix.f (k : Nat) (a0 : Int) (a1 : ByteArray) : Option (ByteArray × Bool) := if a0 = 1 then (if ([109] : List UInt8) = ([] : List UInt8) then (some ((⟨#[]⟩ : ByteArray), false)) else ((batonref02_Name.f k a1).bind fun t448 => (if t448 = true then (if 1 + 1 ≤ 9223372036854775807 then (if 1 + a1.size ≤ 9223372036854775807 then (if (((⟨#[109]⟩ : ByteArray) ++ (⟨#[47]⟩ : ByteArray)) ++ a1).size + 1 ≤ 9223372036854775807 then (some ((((⟨#[109]⟩ : ByteArray) ++ (⟨#[47]⟩ : ByteArray)) ++ a1) ++ (⟨#[47]⟩ : ByteArray), true)) else (none)) else (none)) else (none)) else (some ((⟨#[]⟩ : ByteArray), false))))) else (if a0 = 2 then (batonref02_Prefix.j0 k a1 (⟨#[]⟩ : ByteArray) a0 (a0 == 2)) else (batonref02_Prefix.j0 k a1 (⟨#[]⟩ : ByteArray) a0 (a0 == 3)))
theorem batonref02_Prefix.mono_l : ∀ k, (∀ y0 y1 y2 y3, LeO (batonref02_Prefix.j0 k y0 y1 y2 y3) (batonref02_Prefix.j0 (k + 1) y0 y1 y2 y3)) ∧ (∀ y0 y1 y2, LeO (batonref02_Prefix.j1 k y0 y1 y2) (batonref02_Prefix.j1 (k + 1) y0 y1 y2))
 | 0 => ⟨fun _ _ _ _ r h => by simp [batonref02_Prefix.j0] at h, fun _ _ _ r h => by simp [batonref02_Prefix.j1] at h⟩
 | k + 1 => by
  obtain ⟨ih0, ih1⟩ := batonref02_Prefix.mono_l k
  refine ⟨?_, ?_⟩
  ·intro y0 y1 y2 y3
   unfold batonref02_Prefix.j0
   have ic0 := @batonref02_Name.mono; exact My.mono_
  ·intro y0 y1 y2
   unfold batonref02_Prefix.j1
   have ic0 := @batonref02_Name.mono; exact My.mono_
theorem batonref02_Prefix.mono : ∀ a0 a1 k, LeO (batonref02_Prefix.f k a0 a1) (batonref02_Prefix.f (k + 1) a0 a1) := by
 intro a0 a1 k
 obtain ⟨ih0, ih1⟩ := batonref02_Prefix.mono_l k
 unfold batonref02_Prefix.f
 have ic0 := @batonref02_Name.mono; exact My.mono_
set_option maxHeartbeats 8000000 in
set_option maxRecDepth 100000 in
theorem batonref02_Prefix.calls (k : Nat) (a0 : Int) (a1 : ByteArray) (r1 : ByteArray) (r2 : Bool) (w : World) (h : batonref02_Prefix.f k a0 a1 = some (r1, r2)) :
  Calls Try.prog 34 #[.int .i64 a0, .string a1] w fun e w' => e = .returned (.tuple #[.string r1, .bool r2]) ∧ Drawn0 w w' := by
 have H : (if a0 = 1 then (if ([109] : List UInt8) = ([] : List UInt8) then (some ((⟨#[]⟩ : ByteArray), false)) else ((batonref02_Name.f k a1).bind fun t448 => (if t448 = true then (if 1 + 1 ≤ 9223372036854775807 then (if 1 + a1.size ≤ 9223372036854775807 then (if (((⟨#[109]⟩ : ByteArray) ++ (⟨#[47]⟩ : ByteArray)) ++ a1).size + 1 ≤ 9223372036854775807 then (some ((((⟨#[109]⟩ : ByteArray) ++ (⟨#[47]⟩ : ByteArray)) ++ a1) ++ (⟨#[47]⟩ : ByteArray), true)) else (none)) else (none)) else (none)) else (some ((⟨#[]⟩ : ByteArray), false))))) else (if a0 = 2 then (batonref02_Prefix.j0 k a1 (⟨#[]⟩ : ByteArray) a0 (a0 == 2)) else (batonref02_Prefix.j0 k a1 (⟨#[]⟩ : ByteArray) a0 (a0 == 3)))) = some (r1, r2) := h; clear h
 by_cases c3 : a0 = 1
 ·rw [if_pos c3] at H
  have c3b0 : (a0 == 1) = true := beq_iff_eq.mpr c3; have c3b1 : (a0 != 1) = false := bne_eq_false_iff_eq.mpr c3; clear c3
  by_cases c4 : ([109] : List UInt8) = ([] : List UInt8)
  ·rw [if_pos c4] at H
   have c4b0 : (([109] : List UInt8) == ([] : List UInt8)) = true := beq_iff_eq.mpr c4; have c4b1 : (([109] : List UInt8) != ([] : List UInt8)) = false := bne_eq_false_iff_eq.mpr c4; clear c4; simp only [Option.some.injEq, Prod.mk.injEq] at H; obtain ⟨rfl, rfl⟩ := H
   go_enter Try.func34, Try.ntmps34
   go_wp2
   go_ret2
   exact ⟨by first | rfl | (simp; done) | (simp [*]; done) | exact absurd (by first | rfl | simp | decide +kernel) c49, My.dD⟩
  ·rw [if_neg c4] at H
   have c4b0 : (([109] : List UInt8) == ([] : List UInt8)) = false := beq_eq_false_iff_ne.mpr c4; have c4b1 : (([109] : List UInt8) != ([] : List UInt8)) = true := bne_iff_ne.mpr c4; replace H := Option.bind_eq_some_iff.mp H; obtain ⟨t448, A50, H⟩ := H; replace H : (if t448 = true then (if 1 + 1 ≤ 9223372036854775807 then (if 1 + a1.size ≤ 9223372036854775807 then (if (((⟨#[109]⟩ : ByteArray) ++ (⟨#[47]⟩ : ByteArray)) ++ a1).size + 1 ≤ 9223372036854775807 then (some ((((⟨#[109]⟩ : ByteArray) ++ (⟨#[47]⟩ : ByteArray)) ++ a1) ++ (⟨#[47]⟩ : ByteArray), true)) else (none)) else (none)) else (none)) else (some ((⟨#[]⟩ : ByteArray), false))) = some (r1, r2) := H; have A5 := Aside0.mk A50; clear A50
   by_cases c6 : t448 = true
   ·subst c6
    (have H1 : (if 1 + 1 ≤ 9223372036854775807 then (if 1 + a1.size ≤ 9223372036854775807 then (if (((⟨#[109]⟩ : ByteArray) ++ (⟨#[47]⟩ : ByteArray)) ++ a1).size + 1 ≤ 9223372036854775807 then (some ((((⟨#[109]⟩ : ByteArray) ++ (⟨#[47]⟩ : ByteArray)) ++ a1) ++ (⟨#[47]⟩ : ByteArray), true)) else (none)) else (none)) else (none)) = some (r1, r2) := by rw [if_pos rfl] at H; exact H); clear H; have H := H1; clear H1
    by_cases c7 : 1 + 1 ≤ 9223372036854775807
    ·rw [if_pos c7] at H
     have c7b0 := eq_true c7; have c7b1 : decide (1 + 1 ≤ 9223372036854775807) = true := decide_eq_true c7; (try have c7b2 : (9223372036854775807 < 1 + 1) = False := eq_false (Nat.not_lt.2 c7))
     by_cases c8 : 1 + a1.size ≤ 9223372036854775807
     ·rw [if_pos c8] at H
      have c8b0 := eq_true c8; have c8b1 : decide (1 + a1.size ≤ 9223372036854775807) = true := decide_eq_true c8; (try have c8b2 : (9223372036854775807 < 1 + a1.size) = False := eq_false (Nat.not_lt.2 c8))
      by_cases c9 : (((⟨#[109]⟩ : ByteArray) ++ (⟨#[47]⟩ : ByteArray)) ++ a1).size + 1 ≤ 9223372036854775807
      ·rw [if_pos c9] at H
       have c9b0 := eq_true c9; have c9b1 : decide ((((⟨#[109]⟩ : ByteArray) ++ (⟨#[47]⟩ : ByteArray)) ++ a1).size + 1 ≤ 9223372036854775807) = true := decide_eq_true c9; (try have c9b2 : (9223372036854775807 < (((⟨#[109]⟩ : ByteArray) ++ (⟨#[47]⟩ : ByteArray)) ++ a1).size + 1) = False := eq_false (Nat.not_lt.2 c9)); (try (have c9b5 := c9b2; simp only [ByteArray.size_append, ByteArray.size_extract, My.size_mk, List.size_toArray, List.length_cons, List.length_nil, Nat.zero_add, Nat.reduceAdd] at c9b5)); (try (have c9b6 : (9223372036854775807 < (((⟨#[109]⟩ : ByteArray) ++ (⟨#[47]⟩ : ByteArray)) ++ a1).size) = False := eq_false (by have := c9; omega); simp only [ByteArray.size_append, ByteArray.size_extract, My.size_mk, List.size_toArray, List.length_cons, List.length_nil, Nat.zero_add, Nat.reduceAdd] at c9b6)); simp only [Option.some.injEq, Prod.mk.injEq] at H; obtain ⟨rfl, rfl⟩ := H
       go_enter Try.func34, Try.ntmps34
       go_wp2_with (first | (go_at_call 52; (with_reducible refine (batonref02_Name.calls k a1 true _ A5.out).mono ?_); rintro e w' ⟨rfl, ⟨nd, rfl⟩⟩))
       go_ret2
       exact ⟨by first | rfl | (simp; done) | (simp [*]; done) | exact absurd (by first | rfl | simp | decide +kernel) c49, My.dD⟩
      ·exact My.no c9 H
     ·exact My.no c8 H
    ·exact My.no c7 H
   ·replace c6 := Bool.eq_false_iff.mpr c6
    subst c6; (have H1 : (some ((⟨#[]⟩ : ByteArray), false)) = some (r1, r2) := by rw [if_neg (show ¬ (false = true) by decide)] at H; exact H); clear H; have H := H1; clear H1; simp only [Option.some.injEq, Prod.mk.injEq] at H; obtain ⟨rfl, rfl⟩ := H
    go_enter Try.func34, Try.ntmps34
    go_wp2_with (first | (go_at_call 52; (with_reducible refine (batonref02_Name.calls k a1 false _ A5.out).mono ?_); rintro e w' ⟨rfl, ⟨nd, rfl⟩⟩))
    go_ret2
    exact ⟨by first | rfl | (simp; done) | (simp [*]; done) | exact absurd (by first | rfl | simp | decide +kernel) c49, My.dD⟩
 ·rw [if_neg c3] at H
  have c3b0 : (a0 == 1) = false := beq_eq_false_iff_ne.mpr c3; have c3b1 : (a0 != 1) = true := bne_iff_ne.mpr c3; have HC10 := Aside0.mk H; clear H
  go_enter Try.func34, Try.ntmps34
  go_upto_if 10 with (fail)
  go_cut [10] (fun v10 wc => ∃ (kq : Nat) (x10_9 : Bool), v10 = .bool x10_9 ∧ Aside0 (batonref02_Prefix.j0 kq a1 (⟨#[]⟩ : ByteArray) a0 x10_9 = some (r1, r2)) ∧ Aside0 (kq ≤ k) ∧ Drawn0 w wc)
  case first =>
   have H := HC10.out; clear HC10
   by_cases c11 : a0 = 2
   ·rw [if_pos c11] at H
    have c11b0 : (a0 == 2) = true := beq_iff_eq.mpr c11; have c11b1 : (a0 != 2) = false := bne_eq_false_iff_eq.mpr c11; clear c11; (first | rw [c11b0] | (simp only [i64_w, i32_w]; rw [c11b0]) | skip); have H' := Aside0.mk H; clear H
    go_wp2
    go_meet
    case rel => exact ⟨_, ((a0 == 2)), My.q0, H', ⟨by first | omega | exact Nat.le_refl _⟩, My.dD⟩
   ·rw [if_neg c11] at H
    have c11b0 : (a0 == 2) = false := beq_eq_false_iff_ne.mpr c11; have c11b1 : (a0 != 2) = true := bne_iff_ne.mpr c11; (first | rw [c11b0] | (simp only [i64_w, i32_w]; rw [c11b0]) | skip); have H' := Aside0.mk H; clear H
    go_wp2
    go_meet
    case rel => exact ⟨_, ((a0 == 3)), My.q0, H', ⟨by first | omega | exact Nat.le_refl _⟩, My.dD⟩
  case rest =>
   clear HC10; (try clear c1); (try clear p2); (try clear c3); (try clear c3b0); (try clear c3b1); (try clear c4); (try clear c4b0); (try clear c4b1); (try clear c6); (try clear c7); (try clear c7b0); (try clear c7b1); (try clear c7b2); (try clear c8); (try clear c8b0); (try clear c8b1); (try clear c8b2); (try clear c9); (try clear c9b0); (try clear c9b1); (try clear c9b2); (try clear c11); (try clear c11b0); (try clear c11b1); obtain ⟨kq, x10_9, rfl, HA, HJ9, ⟨mc9, rfl⟩⟩ := hcut
   cases kq with
   | zero => exact absurd HA.out (by simp [batonref02_Prefix.j0])
   | succ kj9 =>
    have H := HA.out; clear HA; simp only [batonref02_Prefix.j0] at H
    by_cases c12 : x10_9 = true
    ·subst c12
     (have H1 : (if ([108] : List UInt8) = ([] : List UInt8) then (some ((⟨#[]⟩ : ByteArray), false)) else ((batonref02_Name.f kj9 a1).bind fun t449 => (if t449 = true then (if 1 + 1 ≤ 9223372036854775807 then (if 1 + a1.size ≤ 9223372036854775807 then (if (((⟨#[108]⟩ : ByteArray) ++ (⟨#[47]⟩ : ByteArray)) ++ a1).size + 1 ≤ 9223372036854775807 then (some ((((⟨#[108]⟩ : ByteArray) ++ (⟨#[47]⟩ : ByteArray)) ++ a1) ++ (⟨#[47]⟩ : ByteArray), true)) else (none)) else (none)) else (none)) else (some ((⟨#[]⟩ : ByteArray), false))))) = some (r1, r2) := by rw [if_pos rfl] at H; exact H); clear H; have H := H1; clear H1
     by_cases c13 : ([108] : List UInt8) = ([] : List UInt8)
     ·rw [if_pos c13] at H
      have c13b0 : (([108] : List UInt8) == ([] : List UInt8)) = true := beq_iff_eq.mpr c13; have c13b1 : (([108] : List UInt8) != ([] : List UInt8)) = false := bne_eq_false_iff_eq.mpr c13; clear c13; simp only [Option.some.injEq, Prod.mk.injEq] at H; obtain ⟨rfl, rfl⟩ := H
      go_wp2
      go_ret2
      exact ⟨by first | rfl | (simp; done) | (simp [*]; done) | exact absurd (by first | rfl | simp | decide +kernel) c49, My.dD⟩
     ·rw [if_neg c13] at H
      have c13b0 : (([108] : List UInt8) == ([] : List UInt8)) = false := beq_eq_false_iff_ne.mpr c13; have c13b1 : (([108] : List UInt8) != ([] : List UInt8)) = true := bne_iff_ne.mpr c13; replace H := Option.bind_eq_some_iff.mp H; obtain ⟨t449, A140, H⟩ := H; replace H : (if t449 = true then (if 1 + 1 ≤ 9223372036854775807 then (if 1 + a1.size ≤ 9223372036854775807 then (if (((⟨#[108]⟩ : ByteArray) ++ (⟨#[47]⟩ : ByteArray)) ++ a1).size + 1 ≤ 9223372036854775807 then (some ((((⟨#[108]⟩ : ByteArray) ++ (⟨#[47]⟩ : ByteArray)) ++ a1) ++ (⟨#[47]⟩ : ByteArray), true)) else (none)) else (none)) else (none)) else (some ((⟨#[]⟩ : ByteArray), false))) = some (r1, r2) := H; have A14 := Aside0.mk A140; clear A140
      by_cases c15 : t449 = true
      ·subst c15
       (have H1 : (if 1 + 1 ≤ 9223372036854775807 then (if 1 + a1.size ≤ 9223372036854775807 then (if (((⟨#[108]⟩ : ByteArray) ++ (⟨#[47]⟩ : ByteArray)) ++ a1).size + 1 ≤ 9223372036854775807 then (some ((((⟨#[108]⟩ : ByteArray) ++ (⟨#[47]⟩ : ByteArray)) ++ a1) ++ (⟨#[47]⟩ : ByteArray), true)) else (none)) else (none)) else (none)) = some (r1, r2) := by rw [if_pos rfl] at H; exact H); clear H; have H := H1; clear H1
       by_cases c16 : 1 + 1 ≤ 9223372036854775807
       ·rw [if_pos c16] at H
        have c16b0 := eq_true c16; have c16b1 : decide (1 + 1 ≤ 9223372036854775807) = true := decide_eq_true c16; (try have c16b2 : (9223372036854775807 < 1 + 1) = False := eq_false (Nat.not_lt.2 c16))
        by_cases c17 : 1 + a1.size ≤ 9223372036854775807
        ·rw [if_pos c17] at H
         have c17b0 := eq_true c17; have c17b1 : decide (1 + a1.size ≤ 9223372036854775807) = true := decide_eq_true c17; (try have c17b2 : (9223372036854775807 < 1 + a1.size) = False := eq_false (Nat.not_lt.2 c17))
         by_cases c18 : (((⟨#[108]⟩ : ByteArray) ++ (⟨#[47]⟩ : ByteArray)) ++ a1).size + 1 ≤ 9223372036854775807
         ·rw [if_pos c18] at H
          have c18b0 := eq_true c18; have c18b1 : decide ((((⟨#[108]⟩ : ByteArray) ++ (⟨#[47]⟩ : ByteArray)) ++ a1).size + 1 ≤ 9223372036854775807) = true := decide_eq_true c18; (try have c18b2 : (9223372036854775807 < (((⟨#[108]⟩ : ByteArray) ++ (⟨#[47]⟩ : ByteArray)) ++ a1).size + 1) = False := eq_false (Nat.not_lt.2 c18)); (try (have c18b5 := c18b2; simp only [ByteArray.size_append, ByteArray.size_extract, My.size_mk, List.size_toArray, List.length_cons, List.length_nil, Nat.zero_add, Nat.reduceAdd] at c18b5)); (try (have c18b6 : (9223372036854775807 < (((⟨#[108]⟩ : ByteArray) ++ (⟨#[47]⟩ : ByteArray)) ++ a1).size) = False := eq_false (by have := c18; omega); simp only [ByteArray.size_append, ByteArray.size_extract, My.size_mk, List.size_toArray, List.length_cons, List.length_nil, Nat.zero_add, Nat.reduceAdd] at c18b6)); simp only [Option.some.injEq, Prod.mk.injEq] at H; obtain ⟨rfl, rfl⟩ := H
          go_wp2_with (first | (go_at_call 52; (with_reducible refine (batonref02_Name.calls kj9 a1 true _ A14.out).mono ?_); rintro e w' ⟨rfl, ⟨nd, rfl⟩⟩))
          go_ret2
          exact ⟨by first | rfl | (simp; done) | (simp [*]; done) | exact absurd (by first | rfl | simp | decide +kernel) c49, My.dD⟩
         ·exact My.no c18 H
        ·exact My.no c17 H
       ·exact My.no c16 H
      ·replace c15 := Bool.eq_false_iff.mpr c15
       subst c15; (have H1 : (some ((⟨#[]⟩ : ByteArray), false)) = some (r1, r2) := by rw [if_neg (show ¬ (false = true) by decide)] at H; exact H); clear H; have H := H1; clear H1; simp only [Option.some.injEq, Prod.mk.injEq] at H; obtain ⟨rfl, rfl⟩ := H
       go_wp2_with (first | (go_at_call 52; (with_reducible refine (batonref02_Name.calls kj9 a1 false _ A14.out).mono ?_); rintro e w' ⟨rfl, ⟨nd, rfl⟩⟩))
       go_ret2
       exact ⟨by first | rfl | (simp; done) | (simp [*]; done) | exact absurd (by first | rfl | simp | decide +kernel) c49, My.dD⟩
    ·replace c12 := Bool.eq_false_iff.mpr c12
     subst c12; (have H1 : (if a0 = 4 then (if ([115] : List UInt8) = ([] : List UInt8) then (some ((⟨#[]⟩ : ByteArray), false)) else ((batonref02_Name.f kj9 a1).bind fun t450 => (if t450 = true then (if 1 + 1 ≤ 9223372036854775807 then (if 1 + a1.size ≤ 9223372036854775807 then (if (((⟨#[115]⟩ : ByteArray) ++ (⟨#[47]⟩ : ByteArray)) ++ a1).size + 1 ≤ 9223372036854775807 then (some ((((⟨#[115]⟩ : ByteArray) ++ (⟨#[47]⟩ : ByteArray)) ++ a1) ++ (⟨#[47]⟩ : ByteArray), true)) else (none)) else (none)) else (none)) else (some ((⟨#[]⟩ : ByteArray), false))))) else (if a0 = 5 then (if ([101] : List UInt8) = ([] : List UInt8) then (some ((⟨#[]⟩ : ByteArray), false)) else ((batonref02_Name.f kj9 a1).bind fun t451 => (if t451 = true then (if 1 + 1 ≤ 9223372036854775807 then (if 1 + a1.size ≤ 9223372036854775807 then (if (((⟨#[101]⟩ : ByteArray) ++ (⟨#[47]⟩ : ByteArray)) ++ a1).size + 1 ≤ 9223372036854775807 then (some ((((⟨#[101]⟩ : ByteArray) ++ (⟨#[47]⟩ : ByteArray)) ++ a1) ++ (⟨#[47]⟩ : ByteArray), true)) else (none)) else (none)) else (none)) else (some ((⟨#[]⟩ : ByteArray), false))))) else (if a0 = 6 then (if ([112] : List UInt8) = ([] : List UInt8) then (some ((⟨#[]⟩ : ByteArray), false)) else ((batonref02_Name.f kj9 a1).bind fun t452 => (if t452 = true then (if 1 + 1 ≤ 9223372036854775807 then (if 1 + a1.size ≤ 9223372036854775807 then (if (((⟨#[112]⟩ : ByteArray) ++ (⟨#[47]⟩ : ByteArray)) ++ a1).size + 1 ≤ 9223372036854775807 then (some ((((⟨#[112]⟩ : ByteArray) ++ (⟨#[47]⟩ : ByteArray)) ++ a1) ++ (⟨#[47]⟩ : ByteArray), true)) else (none)) else (none)) else (none)) else (some ((⟨#[]⟩ : ByteArray), false))))) else (if a0 = 7 then (batonref02_Prefix.j1 kj9 a1 (⟨#[]⟩ : ByteArray) (a0 == 7)) else (batonref02_Prefix.j1 kj9 a1 (⟨#[]⟩ : ByteArray) (a0 == 8)))))) = some (r1, r2) := by rw [if_neg (show ¬ (false = true) by decide)] at H; exact H); clear H; have H := H1; clear H1
     by_cases c19 : a0 = 4
     ·rw [if_pos c19] at H
      have c19b0 : (a0 == 4) = true := beq_iff_eq.mpr c19; have c19b1 : (a0 != 4) = false := bne_eq_false_iff_eq.mpr c19; clear c19
      by_cases c20 : ([115] : List UInt8) = ([] : List UInt8)
      ·rw [if_pos c20] at H
       have c20b0 : (([115] : List UInt8) == ([] : List UInt8)) = true := beq_iff_eq.mpr c20; have c20b1 : (([115] : List UInt8) != ([] : List UInt8)) = false := bne_eq_false_iff_eq.mpr c20; clear c20; simp only [Option.some.injEq, Prod.mk.injEq] at H; obtain ⟨rfl, rfl⟩ := H
       go_wp2
       go_ret2
       exact ⟨by first | rfl | (simp; done) | (simp [*]; done) | exact absurd (by first | rfl | simp | decide +kernel) c49, My.dD⟩
      ·rw [if_neg c20] at H
       have c20b0 : (([115] : List UInt8) == ([] : List UInt8)) = false := beq_eq_false_iff_ne.mpr c20; have c20b1 : (([115] : List UInt8) != ([] : List UInt8)) = true := bne_iff_ne.mpr c20; replace H := Option.bind_eq_some_iff.mp H; obtain ⟨t450, A210, H⟩ := H; replace H : (if t450 = true then (if 1 + 1 ≤ 9223372036854775807 then (if 1 + a1.size ≤ 9223372036854775807 then (if (((⟨#[115]⟩ : ByteArray) ++ (⟨#[47]⟩ : ByteArray)) ++ a1).size + 1 ≤ 9223372036854775807 then (some ((((⟨#[115]⟩ : ByteArray) ++ (⟨#[47]⟩ : ByteArray)) ++ a1) ++ (⟨#[47]⟩ : ByteArray), true)) else (none)) else (none)) else (none)) else (some ((⟨#[]⟩ : ByteArray), false))) = some (r1, r2) := H; have A21 := Aside0.mk A210; clear A210
       by_cases c22 : t450 = true
       ·subst c22
        (have H1 : (if 1 + 1 ≤ 9223372036854775807 then (if 1 + a1.size ≤ 9223372036854775807 then (if (((⟨#[115]⟩ : ByteArray) ++ (⟨#[47]⟩ : ByteArray)) ++ a1).size + 1 ≤ 9223372036854775807 then (some ((((⟨#[115]⟩ : ByteArray) ++ (⟨#[47]⟩ : ByteArray)) ++ a1) ++ (⟨#[47]⟩ : ByteArray), true)) else (none)) else (none)) else (none)) = some (r1, r2) := by rw [if_pos rfl] at H; exact H); clear H; have H := H1; clear H1
        by_cases c23 : 1 + 1 ≤ 9223372036854775807
        ·rw [if_pos c23] at H
         have c23b0 := eq_true c23; have c23b1 : decide (1 + 1 ≤ 9223372036854775807) = true := decide_eq_true c23; (try have c23b2 : (9223372036854775807 < 1 + 1) = False := eq_false (Nat.not_lt.2 c23))
         by_cases c24 : 1 + a1.size ≤ 9223372036854775807
         ·rw [if_pos c24] at H
          have c24b0 := eq_true c24; have c24b1 : decide (1 + a1.size ≤ 9223372036854775807) = true := decide_eq_true c24; (try have c24b2 : (9223372036854775807 < 1 + a1.size) = False := eq_false (Nat.not_lt.2 c24))
          by_cases c25 : (((⟨#[115]⟩ : ByteArray) ++ (⟨#[47]⟩ : ByteArray)) ++ a1).size + 1 ≤ 9223372036854775807
          ·rw [if_pos c25] at H
           have c25b0 := eq_true c25; have c25b1 : decide ((((⟨#[115]⟩ : ByteArray) ++ (⟨#[47]⟩ : ByteArray)) ++ a1).size + 1 ≤ 9223372036854775807) = true := decide_eq_true c25; (try have c25b2 : (9223372036854775807 < (((⟨#[115]⟩ : ByteArray) ++ (⟨#[47]⟩ : ByteArray)) ++ a1).size + 1) = False := eq_false (Nat.not_lt.2 c25)); (try (have c25b5 := c25b2; simp only [ByteArray.size_append, ByteArray.size_extract, My.size_mk, List.size_toArray, List.length_cons, List.length_nil, Nat.zero_add, Nat.reduceAdd] at c25b5)); (try (have c25b6 : (9223372036854775807 < (((⟨#[115]⟩ : ByteArray) ++ (⟨#[47]⟩ : ByteArray)) ++ a1).size) = False := eq_false (by have := c25; omega); simp only [ByteArray.size_append, ByteArray.size_extract, My.size_mk, List.size_toArray, List.length_cons, List.length_nil, Nat.zero_add, Nat.reduceAdd] at c25b6)); simp only [Option.some.injEq, Prod.mk.injEq] at H; obtain ⟨rfl, rfl⟩ := H
           go_wp2_with (first | (go_at_call 52; (with_reducible refine (batonref02_Name.calls kj9 a1 true _ A21.out).mono ?_); rintro e w' ⟨rfl, ⟨nd, rfl⟩⟩))
           go_ret2
           exact ⟨by first | rfl | (simp; done) | (simp [*]; done) | exact absurd (by first | rfl | simp | decide +kernel) c49, My.dD⟩
          ·exact My.no c25 H
         ·exact My.no c24 H
        ·exact My.no c23 H
       ·replace c22 := Bool.eq_false_iff.mpr c22
        subst c22; (have H1 : (some ((⟨#[]⟩ : ByteArray), false)) = some (r1, r2) := by rw [if_neg (show ¬ (false = true) by decide)] at H; exact H); clear H; have H := H1; clear H1; simp only [Option.some.injEq, Prod.mk.injEq] at H; obtain ⟨rfl, rfl⟩ := H
        go_wp2_with (first | (go_at_call 52; (with_reducible refine (batonref02_Name.calls kj9 a1 false _ A21.out).mono ?_); rintro e w' ⟨rfl, ⟨nd, rfl⟩⟩))
        go_ret2
        exact ⟨by first | rfl | (simp; done) | (simp [*]; done) | exact absurd (by first | rfl | simp | decide +kernel) c49, My.dD⟩
     ·rw [if_neg c19] at H
      have c19b0 : (a0 == 4) = false := beq_eq_false_iff_ne.mpr c19; have c19b1 : (a0 != 4) = true := bne_iff_ne.mpr c19
      by_cases c26 : a0 = 5
      ·rw [if_pos c26] at H
       have c26b0 : (a0 == 5) = true := beq_iff_eq.mpr c26; have c26b1 : (a0 != 5) = false := bne_eq_false_iff_eq.mpr c26; clear c26
       by_cases c27 : ([101] : List UInt8) = ([] : List UInt8)
       ·rw [if_pos c27] at H
        have c27b0 : (([101] : List UInt8) == ([] : List UInt8)) = true := beq_iff_eq.mpr c27; have c27b1 : (([101] : List UInt8) != ([] : List UInt8)) = false := bne_eq_false_iff_eq.mpr c27; clear c27; simp only [Option.some.injEq, Prod.mk.injEq] at H; obtain ⟨rfl, rfl⟩ := H
        go_wp2
        go_ret2
        exact ⟨by first | rfl | (simp; done) | (simp [*]; done) | exact absurd (by first | rfl | simp | decide +kernel) c49, My.dD⟩
       ·rw [if_neg c27] at H
        have c27b0 : (([101] : List UInt8) == ([] : List UInt8)) = false := beq_eq_false_iff_ne.mpr c27; have c27b1 : (([101] : List UInt8) != ([] : List UInt8)) = true := bne_iff_ne.mpr c27; replace H := Option.bind_eq_some_iff.mp H; obtain ⟨t451, A280, H⟩ := H; replace H : (if t451 = true then (if 1 + 1 ≤ 9223372036854775807 then (if 1 + a1.size ≤ 9223372036854775807 then (if (((⟨#[101]⟩ : ByteArray) ++ (⟨#[47]⟩ : ByteArray)) ++ a1).size + 1 ≤ 9223372036854775807 then (some ((((⟨#[101]⟩ : ByteArray) ++ (⟨#[47]⟩ : ByteArray)) ++ a1) ++ (⟨#[47]⟩ : ByteArray), true)) else (none)) else (none)) else (none)) else (some ((⟨#[]⟩ : ByteArray), false))) = some (r1, r2) := H; have A28 := Aside0.mk A280; clear A280
        by_cases c29 : t451 = true
        ·subst c29
         (have H1 : (if 1 + 1 ≤ 9223372036854775807 then (if 1 + a1.size ≤ 9223372036854775807 then (if (((⟨#[101]⟩ : ByteArray) ++ (⟨#[47]⟩ : ByteArray)) ++ a1).size + 1 ≤ 9223372036854775807 then (some ((((⟨#[101]⟩ : ByteArray) ++ (⟨#[47]⟩ : ByteArray)) ++ a1) ++ (⟨#[47]⟩ : ByteArray), true)) else (none)) else (none)) else (none)) = some (r1, r2) := by rw [if_pos rfl] at H; exact H); clear H; have H := H1; clear H1
         by_cases c30 : 1 + 1 ≤ 9223372036854775807
         ·rw [if_pos c30] at H
          have c30b0 := eq_true c30; have c30b1 : decide (1 + 1 ≤ 9223372036854775807) = true := decide_eq_true c30; (try have c30b2 : (9223372036854775807 < 1 + 1) = False := eq_false (Nat.not_lt.2 c30))
          by_cases c31 : 1 + a1.size ≤ 9223372036854775807
          ·rw [if_pos c31] at H
           have c31b0 := eq_true c31; have c31b1 : decide (1 + a1.size ≤ 9223372036854775807) = true := decide_eq_true c31; (try have c31b2 : (9223372036854775807 < 1 + a1.size) = False := eq_false (Nat.not_lt.2 c31))
           by_cases c32 : (((⟨#[101]⟩ : ByteArray) ++ (⟨#[47]⟩ : ByteArray)) ++ a1).size + 1 ≤ 9223372036854775807
           ·rw [if_pos c32] at H
            have c32b0 := eq_true c32; have c32b1 : decide ((((⟨#[101]⟩ : ByteArray) ++ (⟨#[47]⟩ : ByteArray)) ++ a1).size + 1 ≤ 9223372036854775807) = true := decide_eq_true c32; (try have c32b2 : (9223372036854775807 < (((⟨#[101]⟩ : ByteArray) ++ (⟨#[47]⟩ : ByteArray)) ++ a1).size + 1) = False := eq_false (Nat.not_lt.2 c32)); (try (have c32b5 := c32b2; simp only [ByteArray.size_append, ByteArray.size_extract, My.size_mk, List.size_toArray, List.length_cons, List.length_nil, Nat.zero_add, Nat.reduceAdd] at c32b5)); (try (have c32b6 : (9223372036854775807 < (((⟨#[101]⟩ : ByteArray) ++ (⟨#[47]⟩ : ByteArray)) ++ a1).size) = False := eq_false (by have := c32; omega); simp only [ByteArray.size_append, ByteArray.size_extract, My.size_mk, List.size_toArray, List.length_cons, List.length_nil, Nat.zero_add, Nat.reduceAdd] at c32b6)); simp only [Option.some.injEq, Prod.mk.injEq] at H; obtain ⟨rfl, rfl⟩ := H
            go_wp2_with (first | (go_at_call 52; (with_reducible refine (batonref02_Name.calls kj9 a1 true _ A28.out).mono ?_); rintro e w' ⟨rfl, ⟨nd, rfl⟩⟩))
            go_ret2
            exact ⟨by first | rfl | (simp; done) | (simp [*]; done) | exact absurd (by first | rfl | simp | decide +kernel) c49, My.dD⟩
           ·exact My.no c32 H
          ·exact My.no c31 H
         ·exact My.no c30 H
        ·replace c29 := Bool.eq_false_iff.mpr c29
         subst c29; (have H1 : (some ((⟨#[]⟩ : ByteArray), false)) = some (r1, r2) := by rw [if_neg (show ¬ (false = true) by decide)] at H; exact H); clear H; have H := H1; clear H1; simp only [Option.some.injEq, Prod.mk.injEq] at H; obtain ⟨rfl, rfl⟩ := H
         go_wp2_with (first | (go_at_call 52; (with_reducible refine (batonref02_Name.calls kj9 a1 false _ A28.out).mono ?_); rintro e w' ⟨rfl, ⟨nd, rfl⟩⟩))
         go_ret2
         exact ⟨by first | rfl | (simp; done) | (simp [*]; done) | exact absurd (by first | rfl | simp | decide +kernel) c49, My.dD⟩
      ·rw [if_neg c26] at H
       have c26b0 : (a0 == 5) = false := beq_eq_false_iff_ne.mpr c26; have c26b1 : (a0 != 5) = true := bne_iff_ne.mpr c26
       by_cases c33 : a0 = 6
       ·rw [if_pos c33] at H
        have c33b0 : (a0 == 6) = true := beq_iff_eq.mpr c33; have c33b1 : (a0 != 6) = false := bne_eq_false_iff_eq.mpr c33; clear c33
        by_cases c34 : ([112] : List UInt8) = ([] : List UInt8)
        ·rw [if_pos c34] at H
         have c34b0 : (([112] : List UInt8) == ([] : List UInt8)) = true := beq_iff_eq.mpr c34; have c34b1 : (([112] : List UInt8) != ([] : List UInt8)) = false := bne_eq_false_iff_eq.mpr c34; clear c34; simp only [Option.some.injEq, Prod.mk.injEq] at H; obtain ⟨rfl, rfl⟩ := H
         go_wp2
         go_ret2
         exact ⟨by first | rfl | (simp; done) | (simp [*]; done) | exact absurd (by first | rfl | simp | decide +kernel) c49, My.dD⟩
        ·rw [if_neg c34] at H
         have c34b0 : (([112] : List UInt8) == ([] : List UInt8)) = false := beq_eq_false_iff_ne.mpr c34; have c34b1 : (([112] : List UInt8) != ([] : List UInt8)) = true := bne_iff_ne.mpr c34; replace H := Option.bind_eq_some_iff.mp H; obtain ⟨t452, A350, H⟩ := H; replace H : (if t452 = true then (if 1 + 1 ≤ 9223372036854775807 then (if 1 + a1.size ≤ 9223372036854775807 then (if (((⟨#[112]⟩ : ByteArray) ++ (⟨#[47]⟩ : ByteArray)) ++ a1).size + 1 ≤ 9223372036854775807 then (some ((((⟨#[112]⟩ : ByteArray) ++ (⟨#[47]⟩ : ByteArray)) ++ a1) ++ (⟨#[47]⟩ : ByteArray), true)) else (none)) else (none)) else (none)) else (some ((⟨#[]⟩ : ByteArray), false))) = some (r1, r2) := H; have A35 := Aside0.mk A350; clear A350
         by_cases c36 : t452 = true
         ·subst c36
          (have H1 : (if 1 + 1 ≤ 9223372036854775807 then (if 1 + a1.size ≤ 9223372036854775807 then (if (((⟨#[112]⟩ : ByteArray) ++ (⟨#[47]⟩ : ByteArray)) ++ a1).size + 1 ≤ 9223372036854775807 then (some ((((⟨#[112]⟩ : ByteArray) ++ (⟨#[47]⟩ : ByteArray)) ++ a1) ++ (⟨#[47]⟩ : ByteArray), true)) else (none)) else (none)) else (none)) = some (r1, r2) := by rw [if_pos rfl] at H; exact H); clear H; have H := H1; clear H1
          by_cases c37 : 1 + 1 ≤ 9223372036854775807
          ·rw [if_pos c37] at H
           have c37b0 := eq_true c37; have c37b1 : decide (1 + 1 ≤ 9223372036854775807) = true := decide_eq_true c37; (try have c37b2 : (9223372036854775807 < 1 + 1) = False := eq_false (Nat.not_lt.2 c37))
           by_cases c38 : 1 + a1.size ≤ 9223372036854775807
           ·rw [if_pos c38] at H
            have c38b0 := eq_true c38; have c38b1 : decide (1 + a1.size ≤ 9223372036854775807) = true := decide_eq_true c38; (try have c38b2 : (9223372036854775807 < 1 + a1.size) = False := eq_false (Nat.not_lt.2 c38))
            by_cases c39 : (((⟨#[112]⟩ : ByteArray) ++ (⟨#[47]⟩ : ByteArray)) ++ a1).size + 1 ≤ 9223372036854775807
            ·rw [if_pos c39] at H
             have c39b0 := eq_true c39; have c39b1 : decide ((((⟨#[112]⟩ : ByteArray) ++ (⟨#[47]⟩ : ByteArray)) ++ a1).size + 1 ≤ 9223372036854775807) = true := decide_eq_true c39; (try have c39b2 : (9223372036854775807 < (((⟨#[112]⟩ : ByteArray) ++ (⟨#[47]⟩ : ByteArray)) ++ a1).size + 1) = False := eq_false (Nat.not_lt.2 c39)); (try (have c39b5 := c39b2; simp only [ByteArray.size_append, ByteArray.size_extract, My.size_mk, List.size_toArray, List.length_cons, List.length_nil, Nat.zero_add, Nat.reduceAdd] at c39b5)); (try (have c39b6 : (9223372036854775807 < (((⟨#[112]⟩ : ByteArray) ++ (⟨#[47]⟩ : ByteArray)) ++ a1).size) = False := eq_false (by have := c39; omega); simp only [ByteArray.size_append, ByteArray.size_extract, My.size_mk, List.size_toArray, List.length_cons, List.length_nil, Nat.zero_add, Nat.reduceAdd] at c39b6)); simp only [Option.some.injEq, Prod.mk.injEq] at H; obtain ⟨rfl, rfl⟩ := H
             go_wp2_with (first | (go_at_call 52; (with_reducible refine (batonref02_Name.calls kj9 a1 true _ A35.out).mono ?_); rintro e w' ⟨rfl, ⟨nd, rfl⟩⟩))
             go_ret2
             exact ⟨by first | rfl | (simp; done) | (simp [*]; done) | exact absurd (by first | rfl | simp | decide +kernel) c49, My.dD⟩
            ·exact My.no c39 H
           ·exact My.no c38 H
          ·exact My.no c37 H
         ·replace c36 := Bool.eq_false_iff.mpr c36
          subst c36; (have H1 : (some ((⟨#[]⟩ : ByteArray), false)) = some (r1, r2) := by rw [if_neg (show ¬ (false = true) by decide)] at H; exact H); clear H; have H := H1; clear H1; simp only [Option.some.injEq, Prod.mk.injEq] at H; obtain ⟨rfl, rfl⟩ := H
          go_wp2_with (first | (go_at_call 52; (with_reducible refine (batonref02_Name.calls kj9 a1 false _ A35.out).mono ?_); rintro e w' ⟨rfl, ⟨nd, rfl⟩⟩))
          go_ret2
          exact ⟨by first | rfl | (simp; done) | (simp [*]; done) | exact absurd (by first | rfl | simp | decide +kernel) c49, My.dD⟩
       ·rw [if_neg c33] at H
        have c33b0 : (a0 == 6) = false := beq_eq_false_iff_ne.mpr c33; have c33b1 : (a0 != 6) = true := bne_iff_ne.mpr c33; have HC40 := Aside0.mk H; clear H
        go_upto_if 19 with (fail)
        go_cut [19] (fun v19 wc => ∃ (kq : Nat) (x19_39 : Bool), v19 = .bool x19_39 ∧ Aside0 (batonref02_Prefix.j1 kq a1 (⟨#[]⟩ : ByteArray) x19_39 = some (r1, r2)) ∧ Aside0 (kq ≤ kj9) ∧ Drawn0 w wc)
        case first =>
         have H := HC40.out; clear HC40
         by_cases c41 : a0 = 7
         ·rw [if_pos c41] at H
          have c41b0 : (a0 == 7) = true := beq_iff_eq.mpr c41; have c41b1 : (a0 != 7) = false := bne_eq_false_iff_eq.mpr c41; clear c41; (first | rw [c41b0] | (simp only [i64_w, i32_w]; rw [c41b0]) | skip); have H' := Aside0.mk H; clear H
          go_wp2
          go_meet
          case rel => exact ⟨_, ((a0 == 7)), My.q0, H', ⟨by have := HJ9.out; first | omega | exact Nat.le_refl _⟩, My.dD⟩
         ·rw [if_neg c41] at H
          have c41b0 : (a0 == 7) = false := beq_eq_false_iff_ne.mpr c41; have c41b1 : (a0 != 7) = true := bne_iff_ne.mpr c41; (first | rw [c41b0] | (simp only [i64_w, i32_w]; rw [c41b0]) | skip); have H' := Aside0.mk H; clear H
          go_wp2
          go_meet
          case rel => exact ⟨_, ((a0 == 8)), My.q0, H', ⟨by have := HJ9.out; first | omega | exact Nat.le_refl _⟩, My.dD⟩
        case rest =>
         clear HC40; (try clear c1); (try clear c2); (try clear p2); (try clear c3); (try clear c3b0); (try clear c3b1); (try clear c4); (try clear c4b0); (try clear c4b1); (try clear c6); (try clear c7); (try clear c7b0); (try clear c7b1); (try clear c7b2); (try clear c8); (try clear c8b0); (try clear c8b1); (try clear c8b2); (try clear c9); (try clear c9b0); (try clear c9b1); (try clear c9b2); (try clear c11); (try clear c11b0); (try clear c11b1); (try clear c12); (try clear c13); (try clear c13b0); (try clear c13b1); (try clear c15); (try clear c16); (try clear c16b0); (try clear c16b1); (try clear c16b2); (try clear c17); (try clear c17b0); (try clear c17b1); (try clear c17b2); (try clear c18); (try clear c18b0); (try clear c18b1); (try clear c18b2); (try clear c19); (try clear c19b0); (try clear c19b1); (try clear c20); (try clear c20b0); (try clear c20b1); (try clear c22); (try clear c23); (try clear c23b0); (try clear c23b1); (try clear c23b2); (try clear c24); (try clear c24b0); (try clear c24b1); (try clear c24b2); (try clear c25); (try clear c25b0); (try clear c25b1); (try clear c25b2); (try clear c26); (try clear c26b0); (try clear c26b1); (try clear c27); (try clear c27b0); (try clear c27b1); (try clear c29); (try clear c30); (try clear c30b0); (try clear c30b1); (try clear c30b2); (try clear c31); (try clear c31b0); (try clear c31b1); (try clear c31b2); (try clear c32); (try clear c32b0); (try clear c32b1); (try clear c32b2); (try clear c33); (try clear c33b0); (try clear c33b1); (try clear c34); (try clear c34b0); (try clear c34b1); (try clear c36); (try clear c37); (try clear c37b0); (try clear c37b1); (try clear c37b2); (try clear c38); (try clear c38b0); (try clear c38b1); (try clear c38b2); (try clear c39); (try clear c39b0); (try clear c39b1); (try clear c39b2); (try clear c41); (try clear c41b0); (try clear c41b1); (try clear p2); obtain ⟨kq, x19_39, rfl, HA, HJ39, ⟨mc39, rfl⟩⟩ := hcut
         cases kq with
         | zero => exact absurd HA.out (by simp [batonref02_Prefix.j1])
         | succ kj39 =>
          have H := HA.out; clear HA; simp only [batonref02_Prefix.j1] at H
          by_cases c42 : x19_39 = true
          ·subst c42
           (have H1 : (if ([113] : List UInt8) = ([] : List UInt8) then (some ((⟨#[]⟩ : ByteArray), false)) else ((batonref02_Name.f kj39 a1).bind fun t453 => (if t453 = true then (if 1 + 1 ≤ 9223372036854775807 then (if 1 + a1.size ≤ 9223372036854775807 then (if (((⟨#[113]⟩ : ByteArray) ++ (⟨#[47]⟩ : ByteArray)) ++ a1).size + 1 ≤ 9223372036854775807 then (some ((((⟨#[113]⟩ : ByteArray) ++ (⟨#[47]⟩ : ByteArray)) ++ a1) ++ (⟨#[47]⟩ : ByteArray), true)) else (none)) else (none)) else (none)) else (some ((⟨#[]⟩ : ByteArray), false))))) = some (r1, r2) := by rw [if_pos rfl] at H; exact H); clear H; have H := H1; clear H1
           by_cases c43 : ([113] : List UInt8) = ([] : List UInt8)
           ·rw [if_pos c43] at H
            have c43b0 : (([113] : List UInt8) == ([] : List UInt8)) = true := beq_iff_eq.mpr c43; have c43b1 : (([113] : List UInt8) != ([] : List UInt8)) = false := bne_eq_false_iff_eq.mpr c43; clear c43; simp only [Option.some.injEq, Prod.mk.injEq] at H; obtain ⟨rfl, rfl⟩ := H
            go_wp2
            go_ret2
            exact ⟨by first | rfl | (simp; done) | (simp [*]; done) | exact absurd (by first | rfl | simp | decide +kernel) c49, My.dD⟩
           ·rw [if_neg c43] at H
            have c43b0 : (([113] : List UInt8) == ([] : List UInt8)) = false := beq_eq_false_iff_ne.mpr c43; have c43b1 : (([113] : List UInt8) != ([] : List UInt8)) = true := bne_iff_ne.mpr c43; replace H := Option.bind_eq_some_iff.mp H; obtain ⟨t453, A440, H⟩ := H; replace H : (if t453 = true then (if 1 + 1 ≤ 9223372036854775807 then (if 1 + a1.size ≤ 9223372036854775807 then (if (((⟨#[113]⟩ : ByteArray) ++ (⟨#[47]⟩ : ByteArray)) ++ a1).size + 1 ≤ 9223372036854775807 then (some ((((⟨#[113]⟩ : ByteArray) ++ (⟨#[47]⟩ : ByteArray)) ++ a1) ++ (⟨#[47]⟩ : ByteArray), true)) else (none)) else (none)) else (none)) else (some ((⟨#[]⟩ : ByteArray), false))) = some (r1, r2) := H; have A44 := Aside0.mk A440; clear A440
            by_cases c45 : t453 = true
            ·subst c45
             (have H1 : (if 1 + 1 ≤ 9223372036854775807 then (if 1 + a1.size ≤ 9223372036854775807 then (if (((⟨#[113]⟩ : ByteArray) ++ (⟨#[47]⟩ : ByteArray)) ++ a1).size + 1 ≤ 9223372036854775807 then (some ((((⟨#[113]⟩ : ByteArray) ++ (⟨#[47]⟩ : ByteArray)) ++ a1) ++ (⟨#[47]⟩ : ByteArray), true)) else (none)) else (none)) else (none)) = some (r1, r2) := by rw [if_pos rfl] at H; exact H); clear H; have H := H1; clear H1
             by_cases c46 : 1 + 1 ≤ 9223372036854775807
             ·rw [if_pos c46] at H
              have c46b0 := eq_true c46; have c46b1 : decide (1 + 1 ≤ 9223372036854775807) = true := decide_eq_true c46; (try have c46b2 : (9223372036854775807 < 1 + 1) = False := eq_false (Nat.not_lt.2 c46))
              by_cases c47 : 1 + a1.size ≤ 9223372036854775807
              ·rw [if_pos c47] at H
               have c47b0 := eq_true c47; have c47b1 : decide (1 + a1.size ≤ 9223372036854775807) = true := decide_eq_true c47; (try have c47b2 : (9223372036854775807 < 1 + a1.size) = False := eq_false (Nat.not_lt.2 c47))
               by_cases c48 : (((⟨#[113]⟩ : ByteArray) ++ (⟨#[47]⟩ : ByteArray)) ++ a1).size + 1 ≤ 9223372036854775807
               ·rw [if_pos c48] at H
                have c48b0 := eq_true c48; have c48b1 : decide ((((⟨#[113]⟩ : ByteArray) ++ (⟨#[47]⟩ : ByteArray)) ++ a1).size + 1 ≤ 9223372036854775807) = true := decide_eq_true c48; (try have c48b2 : (9223372036854775807 < (((⟨#[113]⟩ : ByteArray) ++ (⟨#[47]⟩ : ByteArray)) ++ a1).size + 1) = False := eq_false (Nat.not_lt.2 c48)); (try (have c48b5 := c48b2; simp only [ByteArray.size_append, ByteArray.size_extract, My.size_mk, List.size_toArray, List.length_cons, List.length_nil, Nat.zero_add, Nat.reduceAdd] at c48b5)); (try (have c48b6 : (9223372036854775807 < (((⟨#[113]⟩ : ByteArray) ++ (⟨#[47]⟩ : ByteArray)) ++ a1).size) = False := eq_false (by have := c48; omega); simp only [ByteArray.size_append, ByteArray.size_extract, My.size_mk, List.size_toArray, List.length_cons, List.length_nil, Nat.zero_add, Nat.reduceAdd] at c48b6)); simp only [Option.some.injEq, Prod.mk.injEq] at H; obtain ⟨rfl, rfl⟩ := H
                go_wp2_with (first | (go_at_call 52; (with_reducible refine (batonref02_Name.calls kj39 a1 true _ A44.out).mono ?_); rintro e w' ⟨rfl, ⟨nd, rfl⟩⟩))
                go_ret2
                exact ⟨by first | rfl | (simp; done) | (simp [*]; done) | exact absurd (by first | rfl | simp | decide +kernel) c49, My.dD⟩
               ·exact My.no c48 H
              ·exact My.no c47 H
             ·exact My.no c46 H
            ·replace c45 := Bool.eq_false_iff.mpr c45
             subst c45; (have H1 : (some ((⟨#[]⟩ : ByteArray), false)) = some (r1, r2) := by rw [if_neg (show ¬ (false = true) by decide)] at H; exact H); clear H; have H := H1; clear H1; simp only [Option.some.injEq, Prod.mk.injEq] at H; obtain ⟨rfl, rfl⟩ := H
             go_wp2_with (first | (go_at_call 52; (with_reducible refine (batonref02_Name.calls kj39 a1 false _ A44.out).mono ?_); rintro e w' ⟨rfl, ⟨nd, rfl⟩⟩))
             go_ret2
             exact ⟨by first | rfl | (simp; done) | (simp [*]; done) | exact absurd (by first | rfl | simp | decide +kernel) c49, My.dD⟩
          ·replace c42 := Bool.eq_false_iff.mpr c42
           subst c42; (have H1 : (if (⟨#[]⟩ : ByteArray).toList = ([] : List UInt8) then (some ((⟨#[]⟩ : ByteArray), false)) else ((batonref02_Name.f kj39 a1).bind fun t454 => (if t454 = true then (if (⟨#[]⟩ : ByteArray).size + 1 ≤ 9223372036854775807 then (if ((⟨#[]⟩ : ByteArray) ++ (⟨#[47]⟩ : ByteArray)).size + a1.size ≤ 9223372036854775807 then (if (((⟨#[]⟩ : ByteArray) ++ (⟨#[47]⟩ : ByteArray)) ++ a1).size + 1 ≤ 9223372036854775807 then (some ((((⟨#[]⟩ : ByteArray) ++ (⟨#[47]⟩ : ByteArray)) ++ a1) ++ (⟨#[47]⟩ : ByteArray), true)) else (none)) else (none)) else (none)) else (some ((⟨#[]⟩ : ByteArray), false))))) = some (r1, r2) := by rw [if_neg (show ¬ (false = true) by decide)] at H; exact H); clear H; have H := H1; clear H1
           by_cases c49 : (⟨#[]⟩ : ByteArray).toList = ([] : List UInt8)
           ·rw [if_pos c49] at H
            have c49b0 : ((⟨#[]⟩ : ByteArray).toList == ([] : List UInt8)) = true := beq_iff_eq.mpr c49; have c49b1 : ((⟨#[]⟩ : ByteArray).toList != ([] : List UInt8)) = false := bne_eq_false_iff_eq.mpr c49; clear c49; simp only [Option.some.injEq, Prod.mk.injEq] at H; obtain ⟨rfl, rfl⟩ := H
            go_wp2
            go_ret2
            exact ⟨by first | rfl | (simp; done) | (simp [*]; done) | exact absurd (by first | rfl | simp | decide +kernel) c49, My.dD⟩
           ·rw [if_neg c49] at H
            have c49b0 : ((⟨#[]⟩ : ByteArray).toList == ([] : List UInt8)) = false := beq_eq_false_iff_ne.mpr c49; have c49b1 : ((⟨#[]⟩ : ByteArray).toList != ([] : List UInt8)) = true := bne_iff_ne.mpr c49; replace H := Option.bind_eq_some_iff.mp H; obtain ⟨t454, A500, H⟩ := H; replace H : (if t454 = true then (if (⟨#[]⟩ : ByteArray).size + 1 ≤ 9223372036854775807 then (if ((⟨#[]⟩ : ByteArray) ++ (⟨#[47]⟩ : ByteArray)).size + a1.size ≤ 9223372036854775807 then (if (((⟨#[]⟩ : ByteArray) ++ (⟨#[47]⟩ : ByteArray)) ++ a1).size + 1 ≤ 9223372036854775807 then (some ((((⟨#[]⟩ : ByteArray) ++ (⟨#[47]⟩ : ByteArray)) ++ a1) ++ (⟨#[47]⟩ : ByteArray), true)) else (none)) else (none)) else (none)) else (some ((⟨#[]⟩ : ByteArray), false))) = some (r1, r2) := H; have A50 := Aside0.mk A500; clear A500
            by_cases c51 : t454 = true
            ·subst c51
             (have H1 : (if (⟨#[]⟩ : ByteArray).size + 1 ≤ 9223372036854775807 then (if ((⟨#[]⟩ : ByteArray) ++ (⟨#[47]⟩ : ByteArray)).size + a1.size ≤ 9223372036854775807 then (if (((⟨#[]⟩ : ByteArray) ++ (⟨#[47]⟩ : ByteArray)) ++ a1).size + 1 ≤ 9223372036854775807 then (some ((((⟨#[]⟩ : ByteArray) ++ (⟨#[47]⟩ : ByteArray)) ++ a1) ++ (⟨#[47]⟩ : ByteArray), true)) else (none)) else (none)) else (none)) = some (r1, r2) := by rw [if_pos rfl] at H; exact H); clear H; have H := H1; clear H1
             by_cases c52 : (⟨#[]⟩ : ByteArray).size + 1 ≤ 9223372036854775807
             ·rw [if_pos c52] at H
              have c52b0 := eq_true c52; have c52b1 : decide ((⟨#[]⟩ : ByteArray).size + 1 ≤ 9223372036854775807) = true := decide_eq_true c52; (try have c52b2 : (9223372036854775807 < (⟨#[]⟩ : ByteArray).size + 1) = False := eq_false (Nat.not_lt.2 c52))
              by_cases c53 : ((⟨#[]⟩ : ByteArray) ++ (⟨#[47]⟩ : ByteArray)).size + a1.size ≤ 9223372036854775807
              ·rw [if_pos c53] at H
               have c53b0 := eq_true c53; have c53b1 : decide (((⟨#[]⟩ : ByteArray) ++ (⟨#[47]⟩ : ByteArray)).size + a1.size ≤ 9223372036854775807) = true := decide_eq_true c53; (try have c53b2 : (9223372036854775807 < ((⟨#[]⟩ : ByteArray) ++ (⟨#[47]⟩ : ByteArray)).size + a1.size) = False := eq_false (Nat.not_lt.2 c53)); (try (have c53b5 := c53b2; simp only [ByteArray.size_append, ByteArray.size_extract, My.size_mk, List.size_toArray, List.length_cons, List.length_nil, Nat.zero_add, Nat.reduceAdd] at c53b5)); (try (have c53b6 : (9223372036854775807 < ((⟨#[]⟩ : ByteArray) ++ (⟨#[47]⟩ : ByteArray)).size) = False := eq_false (by have := c53; omega); simp only [ByteArray.size_append, ByteArray.size_extract, My.size_mk, List.size_toArray, List.length_cons, List.length_nil, Nat.zero_add, Nat.reduceAdd] at c53b6))
               by_cases c54 : (((⟨#[]⟩ : ByteArray) ++ (⟨#[47]⟩ : ByteArray)) ++ a1).size + 1 ≤ 9223372036854775807
               ·rw [if_pos c54] at H
                have c54b0 := eq_true c54; have c54b1 : decide ((((⟨#[]⟩ : ByteArray) ++ (⟨#[47]⟩ : ByteArray)) ++ a1).size + 1 ≤ 9223372036854775807) = true := decide_eq_true c54; (try have c54b2 : (9223372036854775807 < (((⟨#[]⟩ : ByteArray) ++ (⟨#[47]⟩ : ByteArray)) ++ a1).size + 1) = False := eq_false (Nat.not_lt.2 c54)); (try (have c54b5 := c54b2; simp only [ByteArray.size_append, ByteArray.size_extract, My.size_mk, List.size_toArray, List.length_cons, List.length_nil, Nat.zero_add, Nat.reduceAdd] at c54b5)); (try (have c54b6 : (9223372036854775807 < (((⟨#[]⟩ : ByteArray) ++ (⟨#[47]⟩ : ByteArray)) ++ a1).size) = False := eq_false (by have := c54; omega); simp only [ByteArray.size_append, ByteArray.size_extract, My.size_mk, List.size_toArray, List.length_cons, List.length_nil, Nat.zero_add, Nat.reduceAdd] at c54b6)); simp only [Option.some.injEq, Prod.mk.injEq] at H; obtain ⟨rfl, rfl⟩ := H
                go_wp2_with (first | (go_at_call 52; (with_reducible refine (batonref02_Name.calls kj39 a1 true _ A50.out).mono ?_); rintro e w' ⟨rfl, ⟨nd, rfl⟩⟩))
                go_ret2
                exact ⟨by first | rfl | (simp; done) | (simp [*]; done) | exact absurd (by first | rfl | simp | decide +kernel) c49, My.dD⟩
               ·exact My.no c54 H
              ·exact My.no c53 H
             ·exact My.no c52 H
            ·replace c51 := Bool.eq_false_iff.mpr c51
             subst c51; (have H1 : (some ((⟨#[]⟩ : ByteArray), false)) = some (r1, r2) := by rw [if_neg (show ¬ (false = true) by decide)] at H; exact H); clear H; have H := H1; clear H1; simp only [Option.some.injEq, Prod.mk.injEq] at H; obtain ⟨rfl, rfl⟩ := H
             go_wp2_with (first | (go_at_call 52; (with_reducible refine (batonref02_Name.calls kj39 a1 false _ A50.out).mono ?_); rintro e w' ⟨rfl, ⟨nd, rfl⟩⟩))
             go_ret2
             exact ⟨by first | rfl | (simp; done) | (simp [*]; done) | exact absurd (by first | rfl | simp | decide +kernel) c49, My.dD⟩

/-! ### batonref17_Reign: function 14 -/
def batonref17_Reign.f (k : Nat) (l0 : List (S26)) (a1 : ByteArray) : Option (Int × ByteArray × Bool) := (batonref02_Prefix.f k 5 a1).bind fun bt455 => (if bt455.2 = true then ((batonref04_From.f k l0 bt455.1).bind fun t457 => ((batonref17_Head.f k t457).bind fun bt460 => (some (bt460.2.2.1, bt460.2.1, bt460.2.2.2.2.2.2)))) else (some (0, (⟨#[]⟩ : ByteArray), false)))
theorem batonref17_Reign.mono : ∀ a0 a1 k, LeO (batonref17_Reign.f k a0 a1) (batonref17_Reign.f (k + 1) a0 a1) := by
  intro a0 a1 k
  unfold batonref17_Reign.f
  have ic0 := @batonref02_Prefix.mono; have ic1 := @batonref04_From.mono; have ic2 := @batonref17_Head.mono; exact My.mono_
set_option maxHeartbeats 8000000 in
set_option maxRecDepth 100000 in
theorem batonref17_Reign.calls (k : Nat) (A0 : Option Addr) (c0 : Nat) (l0 : List (S26)) (a1 : ByteArray) (r1 : Int) (r2 : ByteArray) (r3 : Bool) (w : World) (hr0 : Kd.C k26 w A0 l0.length l0) (hc0 : l0.length ≤ c0) (h : batonref17_Reign.f k l0 a1 = some (r1, r2, r3)) :
    Calls Try.prog 14 #[.slice A0 l0.length c0, .string a1] w fun e w' => e = .returned (.tuple #[.int .i64 r1, .string r2, .bool r3]) ∧ Below w.heap.size w w' := by
  have hu26 := Try.underlying26; have HR0 := Aside0.mk hr0; have HC0 := Aside0.mk hc0; clear hr0 hc0; have HB := Aside0.mk (Below.refl w.heap.size w); have H : ((batonref02_Prefix.f k 5 a1).bind fun bt455 => (if bt455.2 = true then ((batonref04_From.f k l0 bt455.1).bind fun t457 => ((batonref17_Head.f k t457).bind fun bt460 => (some (bt460.2.2.1, bt460.2.1, bt460.2.2.2.2.2.2)))) else (some (0, (⟨#[]⟩ : ByteArray), false)))) = some (r1, r2, r3) := h; clear h; replace H := Option.bind_eq_some_iff.mp H; obtain ⟨⟨t455, t456⟩, A30, H⟩ := H; replace H : (if t456 = true then ((batonref04_From.f k l0 t455).bind fun t457 => ((batonref17_Head.f k t457).bind fun bt460 => (some (bt460.2.2.1, bt460.2.1, bt460.2.2.2.2.2.2)))) else (some (0, (⟨#[]⟩ : ByteArray), false))) = some (r1, r2, r3) := H; have A3 := Aside0.mk A30; clear A30
  by_cases c4 : t456 = true
  · subst c4
    (have H1 : ((batonref04_From.f k l0 t455).bind fun t457 => ((batonref17_Head.f k t457).bind fun bt460 => (some (bt460.2.2.1, bt460.2.1, bt460.2.2.2.2.2.2)))) = some (r1, r2, r3) := by rw [if_pos rfl] at H; exact H); clear H; have H := H1; clear H1; replace H := Option.bind_eq_some_iff.mp H; obtain ⟨t457, A50, H⟩ := H; replace H : ((batonref17_Head.f k t457).bind fun bt460 => (some (bt460.2.2.1, bt460.2.1, bt460.2.2.2.2.2.2))) = some (r1, r2, r3) := H; have A5 := Aside0.mk A50; clear A50; replace H := Option.bind_eq_some_iff.mp H; obtain ⟨⟨t460, t461, t462, t463, t464, t465, t466⟩, A60, H⟩ := H; replace H : (some (t462, t461, t466)) = some (r1, r2, r3) := H; have A6 := Aside0.mk A60; clear A60; simp only [Option.some.injEq, Prod.mk.injEq] at H; obtain ⟨rfl, rfl, rfl⟩ := H
    go_enter Try.func14, Try.ntmps14
    go_wp2_with (first | (go_at_call 34; (with_reducible refine (batonref02_Prefix.calls k 5 a1 t455 true _ A3.out).mono ?_); rintro e w' ⟨rfl, ⟨nd, rfl⟩⟩; (try first | exact ⟨rfl, _, World.drewN_drewN _ _ _⟩ | exact ⟨rfl, _, Eq.trans (World.drewN_drewN _ _ _) (congrArg (World.drewN _) (Nat.add_assoc _ _ _))⟩)) | (go_at_call 26; (with_reducible refine (batonref04_From.calls k _ _ l0 t455 t457 _ ?side1 ?side2 A5.out).mono ?_); (case side1 => exact My.Ca HR0.out); (case side2 => exact HC0.out); rintro e w7 ⟨v458, rfl, ho0, hb⟩; have HO459 := Aside0.mk (Kd.R_lower ho0 (below_size My.bB)); replace HB := Aside0.mk (below_step My.bB hb); (try clear hb); (try clear hb2); (try clear hk); (try clear hi); (try clear ho0); obtain ⟨Ao8, co8, eo8⟩ := Kd.R_slice HO459.out; subst eo8) | (go_at_call 12; (with_reducible refine (batonref17_Head.calls k _ _ t457 t460 t461 t462 t463 t464 t465 t466 _ ?side1 ?side2 A6.out).mono ?_); (case side1 => repeat (first | exact (Kd.R_reads' HO459.out).2.2 | (with_reducible refine Kd.C_alloc ?_ _) | (with_reducible refine Kd.C_drewN ?_ _) | (with_reducible refine Kd.C_drew ?_))); (case side2 => exact (Kd.R_reads' HO459.out).2.1); rintro e w9 ⟨rfl, hb⟩; replace HO459 := Aside0.mk (Kd.R_below (My.Ra HO459.out) hb); replace HB := Aside0.mk (below_step My.bB hb); (try clear hb); (try clear hb2); (try clear hk); (try clear hi)) | ((with_reducible refine gate_dst (N := 9) rfl ?_); refine box_event ?hg (N := 9) ?hd (cs := #[.string (⟨#[]⟩ : ByteArray), .string (⟨#[]⟩ : ByteArray), .int .i64 0, .int .i64 0, .int .i64 0, .int .i64 0]) (t := 26) ?hr ?_; (case hd => rfl); (case hg => rfl); (case hr => first | (go_simp; done) | (go_simp; rfl)); intro gb467 hg w10 hbox hb; have n0_ := Aside0.mk (Kd.R_below (Kd.R_elderB (My.Ra HO459.out) gb467 (Nat.le_of_eq hg.symm)) hb); have n1_ := Aside0.mk (below_step My.bB hb); have n2_ := Aside0.mk (hbox); have n3_ := Aside0.mk ((by rw [hg]; exact (below_size My.bB) : w.heap.size ≤ gb467)); have n4_ := Aside0.mk ((by rw [hg]; exact (below_size My.bB) : w.heap.size ≤ gb467)); clear HO459; clear HB; have HO459 := n0_; have HB := n1_; have BK467 := n2_; have GW467 := n3_; have GE467 := n4_; clear n0_ n1_ n2_ n3_ n4_; clear hb hbox hg; obtain ⟨hcz11_0, hcz11_1, hcz11_2, hcz11_3, hcz11_4, hcz11_5⟩ := My.qc6 BK467.out; obtain ⟨hfz11_0, hfz11_1, hfz11_2, hfz11_3, hfz11_4, hfz11_5⟩ := My.qf6 BK467.out))
    repeat (go_quiet (fail); try go_wp2)
    go_ret3
    exact ⟨My.q1, (My.bG GE467.out)⟩
  · replace c4 := Bool.eq_false_iff.mpr c4
    subst c4; (have H1 : (some (0, (⟨#[]⟩ : ByteArray), false)) = some (r1, r2, r3) := by rw [if_neg (show ¬ (false = true) by decide)] at H; exact H); clear H; have H := H1; clear H1; simp only [Option.some.injEq, Prod.mk.injEq] at H; obtain ⟨rfl, rfl, rfl⟩ := H
    go_enter Try.func14, Try.ntmps14
    go_wp2_with (first | (go_at_call 34; (with_reducible refine (batonref02_Prefix.calls k 5 a1 t455 false _ A3.out).mono ?_); rintro e w' ⟨rfl, ⟨nd, rfl⟩⟩; (try first | exact ⟨rfl, _, World.drewN_drewN _ _ _⟩ | exact ⟨rfl, _, Eq.trans (World.drewN_drewN _ _ _) (congrArg (World.drewN _) (Nat.add_assoc _ _ _))⟩)))
    repeat (go_quiet (fail); try go_wp2)
    go_ret3
    exact ⟨My.q1, My.bB⟩

/-! ### batonref17_Terms: function 17 -/
def batonref17_Terms.l0 : Nat → List (S26) → List Int → Int → Option (List Int)
 | 0, _, _, _ => none
 | k + 1, x0, x3, x4 => if x4 < (x0.length : Int) then (if x4 = 0 then (if 0 ≤ x4 then (if x3.length < 17592186044416 then (batonref17_Terms.l0 k x0 (x3 ++ [(rd_T26 x0 x4).f2]) (wrap64 (x4 + 1))) else (none)) else (none)) else (if 0 ≤ (wrap64 (x4 - 1)) then (if (wrap64 (x4 - 1)) < (x0.length : Int) then (if 0 ≤ x4 then (if ((rd_T26 x0 (wrap64 (x4 - 1))).f2) = ((rd_T26 x0 x4).f2) then (batonref17_Terms.l0 k x0 x3 (wrap64 (x4 + 1))) else (if x3.length < 17592186044416 then (batonref17_Terms.l0 k x0 (x3 ++ [(rd_T26 x0 x4).f2]) (wrap64 (x4 + 1))) else (none))) else (none)) else (none)) else (none))) else (some x3)
def batonref17_Terms.f (k : Nat) (l0 : List (S26)) : Option (List Int) := batonref17_Terms.l0 k l0 ([] : List Int) 0
theorem batonref17_Terms.mono_l : ∀ k, (∀ y0 y1 y2, LeO (batonref17_Terms.l0 k y0 y1 y2) (batonref17_Terms.l0 (k + 1) y0 y1 y2))
 | 0 => fun _ _ _ r h => by simp [batonref17_Terms.l0] at h
 | k + 1 => by
  have ih0 := batonref17_Terms.mono_l k
  ·intro y0 y1 y2
   unfold batonref17_Terms.l0
   exact My.mono_
theorem batonref17_Terms.mono : ∀ a0 k, LeO (batonref17_Terms.f k a0) (batonref17_Terms.f (k + 1) a0) := by
 intro a0 k
 have ih0 := batonref17_Terms.mono_l k
 unfold batonref17_Terms.f
 exact My.mono_
set_option maxHeartbeats 8000000 in
set_option maxRecDepth 100000 in
theorem batonref17_Terms.calls (k : Nat) (A0 : Option Addr) (c0 : Nat) (l0 : List (S26)) (r : List Int) (w : World) (hr0 : Kd.C k26 w A0 l0.length l0) (hc0 : l0.length ≤ c0) (h : batonref17_Terms.f k l0 = some r) :
  Calls Try.prog 17 #[.slice A0 l0.length c0] w fun e w' => ∃ v0_ : Value, e = .returned (v0_) ∧ Kd.R (Kd.int .i64) 3 w' w.heap.size (fun _ => True) v0_ r ∧ Below w.heap.size w w' := by
 have HR0 := Aside0.mk hr0; have HC0 := Aside0.mk hc0; clear hr0 hc0; have HB := Aside0.mk (Below.refl w.heap.size w); have H : (batonref17_Terms.l0 k l0 ([] : List Int) 0) = some r := h; clear h; have H' := Aside0.mk H; clear H
 go_enter Try.func17, Try.ntmps17
 go_wp2
 repeat (go_quiet (fail); try go_wp2)
 go_loopg [3, 4] k (fun kq v3 v4 w' => ∃ (x3_1 : List Int) (x4_1 : Int), v4 = .int .i64 x4_1 ∧ Aside0 (batonref17_Terms.l0 kq l0 x3_1 x4_1 = some r) ∧ Aside0 (kq ≤ k) ∧ Aside0 (Kd.R (Kd.int .i64) 3 w' w.heap.size (fun _ => True) v3 x3_1) ∧ Aside0 (Below w.heap.size w w'))
 case atStart => exact ⟨(([] : List Int)), (0), My.q0, H', ⟨Nat.le_refl _⟩, ⟨by first | exact Kd.R_nil _ _ _ _ _ | exact Kd.N_nil _ _ _ _ _ | exact Kd.V_nil _ _ _ _ _ | exact Kd.Q_nil _ _ _ _ _ | exact Kd.S_nil _ _ _ _ _⟩, ⟨My.bB⟩⟩
 case round =>
  clear H'; (try clear c1); obtain ⟨x3_1, x4_1, rfl, HA, HK1, HO_3, HB⟩ := hrel
  cases gk with
  | zero => exact absurd HA.out (by simp [batonref17_Terms.l0])
  | succ k1 =>
   have H := HA.out; clear HA; simp only [batonref17_Terms.l0] at H
   by_cases c2 : x4_1 < (l0.length : Int)
   ·rw [if_pos c2] at H
    have c2b0 := decide_eq_true c2; clear c2
    by_cases c3 : x4_1 = 0
    ·rw [if_pos c3] at H
     have c3b0 : (x4_1 == 0) = true := beq_iff_eq.mpr c3; have c3b1 : (x4_1 != 0) = false := bne_eq_false_iff_eq.mpr c3; clear c3
     by_cases c4 : 0 ≤ x4_1
     ·rw [if_pos c4] at H
      have c4b0 := decide_eq_true c4; clear c4
      by_cases c5 : x3_1.length < 17592186044416
      ·rw [if_pos c5] at H
       have LMc5 := Aside0.mk c5; clear c5; obtain ⟨y469, hy469⟩ : ∃ y_ : List Int, y_ = (x3_1 ++ [(rd_T26 l0 x4_1).f2]) := ⟨_, rfl⟩; (replace H : (batonref17_Terms.l0 k1 l0 y469 (wrap64 (x4_1 + 1))) = some r := by first | (rw [hy469]; with_reducible exact H) | (have H2_ := (Option.bind_some _ _).symm.trans H; rw [hy469]; with_reducible exact H2_) | (have H2_ := (Option.bind_some _ _).symm.trans H; with_reducible exact H2_) | with_reducible exact H | (rw [hy469]; exact H) | exact H); have Ny469 := Aside0.mk hy469; clear hy469; have H' := Aside0.mk H; clear H; have p468 : 0 ≤ (x4_1 : Int) := of_decide_eq_true My.as; have q468 : x4_1 < (l0.length : Int) := of_decide_eq_true My.as; obtain ⟨ad468, e468, hx468_0, hx468_1, hx468_2, hx468_3, hx468_4, hx468_5⟩ := at_T26 HR0.out x4_1 p468 q468; cases e468; replace hx468_0 := My.up HB.out hx468_0; replace hx468_1 := My.up HB.out hx468_1; replace hx468_2 := My.up HB.out hx468_2; replace hx468_3 := My.up HB.out hx468_3; replace hx468_4 := My.up HB.out hx468_4; replace hx468_5 := My.up HB.out hx468_5; replace p468 := eq_true p468; replace q468 := eq_true q468
       go_wp2_with (first | ((with_reducible refine gate_builtin (b := .append) (xs := #[.tmp 27, .tmp 33]) rfl ?_); at_builtin; refine Kd.R_append (Kd.int .i64) (w0 := w) w.heap.size rfl (.tmp 27) (.tmp 33) 32 3 (.int .i64 0) 8 rfl Try.underlying32 info3 rfl (by decide) (by omega) u3 x3_1 ((rd_T26 l0 x4_1).f2) [.int .i64 ((rd_T26 l0 x4_1).f2)] (fun _ => True) (fun _ => False) rfl rfl ?aP (fun _ hk => hk.elim) ?aF ?aO ?aB ?aS ?aL ?_; (case aP => exact rfl); (case aB => exact My.bB); (case aF => exact (fun _ _ => trivial)); (case aO => exact (My.Ra HO_3.out)); (case aS => exact (below_size My.bB)); (case aL => have := LMc5.out; omega); intro v470 w6 ho hb hg hat; rw [← Ny469.out] at ho; replace HB := Aside0.mk (hb); have HO471 := Aside0.mk (ho); clear HO_3; clear ho hb hg hat))
       repeat (go_quiet (first | ((with_reducible refine gate_builtin (b := .append) (xs := #[.tmp 27, .tmp 33]) rfl ?_); at_builtin; refine Kd.R_append (Kd.int .i64) (w0 := w) w.heap.size rfl (.tmp 27) (.tmp 33) 32 3 (.int .i64 0) 8 rfl Try.underlying32 info3 rfl (by decide) (by omega) u3 x3_1 ((rd_T26 l0 x4_1).f2) [.int .i64 ((rd_T26 l0 x4_1).f2)] (fun _ => True) (fun _ => False) rfl rfl ?aP (fun _ hk => hk.elim) ?aF ?aO ?aB ?aS ?aL ?_; (case aP => exact rfl); (case aB => exact My.bB); (case aF => exact (fun _ _ => trivial)); (case aO => exact (My.Ra HO_3.out)); (case aS => exact (below_size My.bB)); (case aL => have := LMc5.out; omega); intro v470 w6 ho hb hg hat; rw [← Ny469.out] at ho; replace HB := Aside0.mk (hb); have HO471 := Aside0.mk (ho); clear HO_3; clear ho hb hg hat)); try go_wp2_with (first | ((with_reducible refine gate_builtin (b := .append) (xs := #[.tmp 27, .tmp 33]) rfl ?_); at_builtin; refine Kd.R_append (Kd.int .i64) (w0 := w) w.heap.size rfl (.tmp 27) (.tmp 33) 32 3 (.int .i64 0) 8 rfl Try.underlying32 info3 rfl (by decide) (by omega) u3 x3_1 ((rd_T26 l0 x4_1).f2) [.int .i64 ((rd_T26 l0 x4_1).f2)] (fun _ => True) (fun _ => False) rfl rfl ?aP (fun _ hk => hk.elim) ?aF ?aO ?aB ?aS ?aL ?_; (case aP => exact rfl); (case aB => exact My.bB); (case aF => exact (fun _ _ => trivial)); (case aO => exact (My.Ra HO_3.out)); (case aS => exact (below_size My.bB)); (case aL => have := LMc5.out; omega); intro v470 w6 ho hb hg hat; rw [← Ny469.out] at ho; replace HB := Aside0.mk (hb); have HO471 := Aside0.mk (ho); clear HO_3; clear ho hb hg hat)))
       go_roundg k1
       case measure => have := HK1.out; omega
       case rel => exact ⟨(y469), (wrap64 (x4_1 + 1)), My.q0, H', ⟨by have := HK1.out; omega⟩, ⟨My.Ra HO471.out⟩, ⟨My.bB⟩⟩
      ·exact My.no c5 H
     ·exact My.no c4 H
    ·rw [if_neg c3] at H
     have c3b0 : (x4_1 == 0) = false := beq_eq_false_iff_ne.mpr c3; have c3b1 : (x4_1 != 0) = true := bne_iff_ne.mpr c3; obtain ⟨ji7, hji7⟩ : ∃ j_ : Int, (wrap64 (x4_1 - 1)) = j_ := ⟨_, rfl⟩; (replace H : (if 0 ≤ (ji7) then (if (ji7) < (l0.length : Int) then (if 0 ≤ x4_1 then (if ((rd_T26 l0 (ji7)).f2) = ((rd_T26 l0 x4_1).f2) then (batonref17_Terms.l0 k1 l0 x3_1 (wrap64 (x4_1 + 1))) else (if x3_1.length < 17592186044416 then (batonref17_Terms.l0 k1 l0 (x3_1 ++ [(rd_T26 l0 x4_1).f2]) (wrap64 (x4_1 + 1))) else (none))) else (none)) else (none)) else (none)) = some r := by first | (rw [hji7] at H; exact H) | (simp only [hji7] at H ⊢; exact H)); have hji7w : (IntKind.i64.wrap (x4_1 - 1)) = ji7 := (i64_w _).trans hji7
     by_cases c8 : 0 ≤ (ji7)
     ·rw [if_pos c8] at H
      have c8b0 := decide_eq_true c8; clear c8
      by_cases c9 : (ji7) < (l0.length : Int)
      ·rw [if_pos c9] at H
       have c9b0 := decide_eq_true c9; clear c9
       by_cases c10 : 0 ≤ x4_1
       ·rw [if_pos c10] at H
        have c10b0 := decide_eq_true c10; clear c10
        by_cases c11 : ((rd_T26 l0 (ji7)).f2) = ((rd_T26 l0 x4_1).f2)
        ·rw [if_pos c11] at H
         have c11b0 : (((rd_T26 l0 (ji7)).f2) == ((rd_T26 l0 x4_1).f2)) = true := beq_iff_eq.mpr c11; have c11b1 : (((rd_T26 l0 (ji7)).f2) != ((rd_T26 l0 x4_1).f2)) = false := bne_eq_false_iff_eq.mpr c11; clear c11; have H' := Aside0.mk H; clear H; have p472 : 0 ≤ ((ji7) : Int) := of_decide_eq_true My.as; have q472 : (ji7) < (l0.length : Int) := of_decide_eq_true My.as; obtain ⟨ad472, e472, hx472_0, hx472_1, hx472_2, hx472_3, hx472_4, hx472_5⟩ := at_T26 HR0.out (ji7) p472 q472; cases e472; replace hx472_0 := My.up HB.out hx472_0; replace hx472_1 := My.up HB.out hx472_1; replace hx472_2 := My.up HB.out hx472_2; replace hx472_3 := My.up HB.out hx472_3; replace hx472_4 := My.up HB.out hx472_4; replace hx472_5 := My.up HB.out hx472_5; replace p472 := eq_true p472; replace q472 := eq_true q472; have p473 : 0 ≤ (x4_1 : Int) := of_decide_eq_true My.as; have q473 : x4_1 < (l0.length : Int) := of_decide_eq_true My.as; obtain ⟨ad473, e473, hx473_0, hx473_1, hx473_2, hx473_3, hx473_4, hx473_5⟩ := at_T26 HR0.out x4_1 p473 q473; obtain rfl : ad472 = ad473 := (by injection e473); replace hx473_0 := My.up HB.out hx473_0; replace hx473_1 := My.up HB.out hx473_1; replace hx473_2 := My.up HB.out hx473_2; replace hx473_3 := My.up HB.out hx473_3; replace hx473_4 := My.up HB.out hx473_4; replace hx473_5 := My.up HB.out hx473_5; replace p473 := eq_true p473; replace q473 := eq_true q473
         go_wp2
         repeat (go_quiet (fail); try go_wp2)
         go_roundg k1
         case measure => have := HK1.out; omega
         case rel => exact ⟨(x3_1), (wrap64 (x4_1 + 1)), My.q0, H', ⟨by have := HK1.out; omega⟩, ⟨My.Ra HO_3.out⟩, ⟨My.bB⟩⟩
        ·rw [if_neg c11] at H
         have c11b0 : (((rd_T26 l0 (ji7)).f2) == ((rd_T26 l0 x4_1).f2)) = false := beq_eq_false_iff_ne.mpr c11; have c11b1 : (((rd_T26 l0 (ji7)).f2) != ((rd_T26 l0 x4_1).f2)) = true := bne_iff_ne.mpr c11
         by_cases c12 : x3_1.length < 17592186044416
         ·rw [if_pos c12] at H
          have LMc12 := Aside0.mk c12; clear c12; obtain ⟨y475, hy475⟩ : ∃ y_ : List Int, y_ = (x3_1 ++ [(rd_T26 l0 x4_1).f2]) := ⟨_, rfl⟩; (replace H : (batonref17_Terms.l0 k1 l0 y475 (wrap64 (x4_1 + 1))) = some r := by first | (rw [hy475]; with_reducible exact H) | (have H2_ := (Option.bind_some _ _).symm.trans H; rw [hy475]; with_reducible exact H2_) | (have H2_ := (Option.bind_some _ _).symm.trans H; with_reducible exact H2_) | with_reducible exact H | (rw [hy475]; exact H) | exact H); have Ny475 := Aside0.mk hy475; clear hy475; have H' := Aside0.mk H; clear H; have p472 : 0 ≤ ((ji7) : Int) := of_decide_eq_true My.as; have q472 : (ji7) < (l0.length : Int) := of_decide_eq_true My.as; obtain ⟨ad472, e472, hx472_0, hx472_1, hx472_2, hx472_3, hx472_4, hx472_5⟩ := at_T26 HR0.out (ji7) p472 q472; cases e472; replace hx472_0 := My.up HB.out hx472_0; replace hx472_1 := My.up HB.out hx472_1; replace hx472_2 := My.up HB.out hx472_2; replace hx472_3 := My.up HB.out hx472_3; replace hx472_4 := My.up HB.out hx472_4; replace hx472_5 := My.up HB.out hx472_5; replace p472 := eq_true p472; replace q472 := eq_true q472; have p473 : 0 ≤ (x4_1 : Int) := of_decide_eq_true My.as; have q473 : x4_1 < (l0.length : Int) := of_decide_eq_true My.as; obtain ⟨ad473, e473, hx473_0, hx473_1, hx473_2, hx473_3, hx473_4, hx473_5⟩ := at_T26 HR0.out x4_1 p473 q473; obtain rfl : ad472 = ad473 := (by injection e473); replace hx473_0 := My.up HB.out hx473_0; replace hx473_1 := My.up HB.out hx473_1; replace hx473_2 := My.up HB.out hx473_2; replace hx473_3 := My.up HB.out hx473_3; replace hx473_4 := My.up HB.out hx473_4; replace hx473_5 := My.up HB.out hx473_5; replace p473 := eq_true p473; replace q473 := eq_true q473; have p474 : 0 ≤ (x4_1 : Int) := of_decide_eq_true My.as; have q474 : x4_1 < (l0.length : Int) := of_decide_eq_true My.as; obtain ⟨ad474, e474, hx474_0, hx474_1, hx474_2, hx474_3, hx474_4, hx474_5⟩ := at_T26 HR0.out x4_1 p474 q474; obtain rfl : ad472 = ad474 := (by injection e474); replace hx474_0 := My.up HB.out hx474_0; replace hx474_1 := My.up HB.out hx474_1; replace hx474_2 := My.up HB.out hx474_2; replace hx474_3 := My.up HB.out hx474_3; replace hx474_4 := My.up HB.out hx474_4; replace hx474_5 := My.up HB.out hx474_5; replace p474 := eq_true p474; replace q474 := eq_true q474
          go_wp2_with (first | ((with_reducible refine gate_builtin (b := .append) (xs := #[.tmp 27, .tmp 33]) rfl ?_); at_builtin; refine Kd.R_append (Kd.int .i64) (w0 := w) w.heap.size rfl (.tmp 27) (.tmp 33) 32 3 (.int .i64 0) 8 rfl Try.underlying32 info3 rfl (by decide) (by omega) u3 x3_1 ((rd_T26 l0 x4_1).f2) [.int .i64 ((rd_T26 l0 x4_1).f2)] (fun _ => True) (fun _ => False) rfl rfl ?aP (fun _ hk => hk.elim) ?aF ?aO ?aB ?aS ?aL ?_; (case aP => exact rfl); (case aB => exact My.bB); (case aF => exact (fun _ _ => trivial)); (case aO => exact (My.Ra HO_3.out)); (case aS => exact (below_size My.bB)); (case aL => have := LMc12.out; omega); intro v476 w13 ho hb hg hat; rw [← Ny475.out] at ho; replace HB := Aside0.mk (hb); have HO477 := Aside0.mk (ho); clear HO_3; clear ho hb hg hat))
          repeat (go_quiet (first | ((with_reducible refine gate_builtin (b := .append) (xs := #[.tmp 27, .tmp 33]) rfl ?_); at_builtin; refine Kd.R_append (Kd.int .i64) (w0 := w) w.heap.size rfl (.tmp 27) (.tmp 33) 32 3 (.int .i64 0) 8 rfl Try.underlying32 info3 rfl (by decide) (by omega) u3 x3_1 ((rd_T26 l0 x4_1).f2) [.int .i64 ((rd_T26 l0 x4_1).f2)] (fun _ => True) (fun _ => False) rfl rfl ?aP (fun _ hk => hk.elim) ?aF ?aO ?aB ?aS ?aL ?_; (case aP => exact rfl); (case aB => exact My.bB); (case aF => exact (fun _ _ => trivial)); (case aO => exact (My.Ra HO_3.out)); (case aS => exact (below_size My.bB)); (case aL => have := LMc12.out; omega); intro v476 w13 ho hb hg hat; rw [← Ny475.out] at ho; replace HB := Aside0.mk (hb); have HO477 := Aside0.mk (ho); clear HO_3; clear ho hb hg hat)); try go_wp2_with (first | ((with_reducible refine gate_builtin (b := .append) (xs := #[.tmp 27, .tmp 33]) rfl ?_); at_builtin; refine Kd.R_append (Kd.int .i64) (w0 := w) w.heap.size rfl (.tmp 27) (.tmp 33) 32 3 (.int .i64 0) 8 rfl Try.underlying32 info3 rfl (by decide) (by omega) u3 x3_1 ((rd_T26 l0 x4_1).f2) [.int .i64 ((rd_T26 l0 x4_1).f2)] (fun _ => True) (fun _ => False) rfl rfl ?aP (fun _ hk => hk.elim) ?aF ?aO ?aB ?aS ?aL ?_; (case aP => exact rfl); (case aB => exact My.bB); (case aF => exact (fun _ _ => trivial)); (case aO => exact (My.Ra HO_3.out)); (case aS => exact (below_size My.bB)); (case aL => have := LMc12.out; omega); intro v476 w13 ho hb hg hat; rw [← Ny475.out] at ho; replace HB := Aside0.mk (hb); have HO477 := Aside0.mk (ho); clear HO_3; clear ho hb hg hat)))
          go_roundg k1
          case measure => have := HK1.out; omega
          case rel => exact ⟨(y475), (wrap64 (x4_1 + 1)), My.q0, H', ⟨by have := HK1.out; omega⟩, ⟨My.Ra HO477.out⟩, ⟨My.bB⟩⟩
         ·exact My.no c12 H
       ·exact My.no c10 H
      ·exact My.no c9 H
     ·exact My.no c8 H
   ·rw [if_neg c2] at H
    have c2b0 := decide_eq_false c2; clear c2; obtain rfl := Option.some.inj H
    go_wp2
    repeat (go_quiet (fail); try go_wp2)
    go_ret
    exact ⟨_, My.q1, My.Ra HO_3.out, My.bB⟩

end Go.Proofs.Ytaebmmjhokjdbaa.PM
