-- made by a program of this session (wip/tools/myprint.py over the kit's print) out of the translation; Lean checks it
import Derived.Test.YtaebmmjhokjdbaaPM0
namespace Go.Proofs.Ytaebmmjhokjdbaa.PM
open Go.RowKit Go.Proofs.YtaebmmjhokjdbaaW.PrintWords Go.Proofs.YtaebmmjhokjdbaaW.PrintLast Go.Proofs.YtaebmmjhokjdbaaW.PrintMore
attribute [local go_sem] max2_int min2_int max_two min_two max_three min_three max_four min_four   -- for this text's walks alone
attribute [local go_sem high] Go.Proofs.Ytaebmmjhokjdbaa.My.str_leq Go.Proofs.Ytaebmmjhokjdbaa.My.str_gtr Go.Proofs.Ytaebmmjhokjdbaa.My.str_geq
set_option linter.unusedVariables false
set_option linter.unusedSimpArgs false

/-! ### batonref03_Few: function 9 -/
def batonref03_Few.l0 : Nat → List (S26) → Int → Option (Bool)
  | 0, _, _ => none
  | k + 1, x0, x5 => if x5 < (x0.length : Int) then (if 0 ≤ x5 then (if (((rd_T26 x0 x5).f0).size : Int) > 60 then (some false) else (if (((rd_T26 x0 x5).f1).size : Int) > 60 then (some false) else (batonref03_Few.l0 k x0 (wrap64 (x5 + 1))))) else (none)) else (some true)
def batonref03_Few.f (k : Nat) (l0 : List (S26)) (a1 : Int) : Option (Bool) := if (l0.length : Int) > a1 then (some false) else (batonref03_Few.l0 k l0 0)
theorem batonref03_Few.mono_l : ∀ k, (∀ y0 y1, LeO (batonref03_Few.l0 k y0 y1) (batonref03_Few.l0 (k + 1) y0 y1))
  | 0 => fun _ _ r h => by simp [batonref03_Few.l0] at h
  | k + 1 => by
    have ih0 := batonref03_Few.mono_l k
    · intro y0 y1
      unfold batonref03_Few.l0
      exact My.mono_
theorem batonref03_Few.mono : ∀ a0 a1 k, LeO (batonref03_Few.f k a0 a1) (batonref03_Few.f (k + 1) a0 a1) := by
  intro a0 a1 k
  have ih0 := batonref03_Few.mono_l k
  unfold batonref03_Few.f
  exact My.mono_
set_option maxHeartbeats 80000000 in
set_option maxRecDepth 100000 in
theorem batonref03_Few.calls (k : Nat) (A0 : Option Addr) (c0 : Nat) (l0 : List (S26)) (a1 : Int) (r : Bool) (w : World) (hr0 : Kd.C k26 w A0 l0.length l0) (hc0 : l0.length ≤ c0) (h : batonref03_Few.f k l0 a1 = some r) :
    Calls Try.prog 9 #[.slice A0 l0.length c0, .int .i64 a1] w fun e w' => e = .returned (.bool r) ∧ Drawn0 w w' := by
  have HR0 := Aside0.mk hr0; have HC0 := Aside0.mk hc0; clear hr0 hc0; have H : (if (l0.length : Int) > a1 then (some false) else (batonref03_Few.l0 k l0 0)) = some r := h; clear h
  by_cases c3 : (l0.length : Int) > a1
  · rw [if_pos c3] at H
    have c3b0 := decide_eq_true c3; clear c3; obtain rfl := Option.some.inj H
    go_enter Try.func9, Try.ntmps9
    go_wp2
    go_ret
    exact ⟨My.q0, My.dD⟩
  · rw [if_neg c3] at H
    have c3b0 := decide_eq_false c3; clear c3; have H' := Aside0.mk H; clear H
    go_enter Try.func9, Try.ntmps9
    go_wp2
    go_loopg [5] k (fun kq v5 w' => ∃ (x5_1 : Int), v5 = .int .i64 x5_1 ∧ Aside0 (batonref03_Few.l0 kq l0 x5_1 = some r) ∧ Aside0 (kq ≤ k) ∧ Drawn0 w w')
    case atStart => exact ⟨(0), My.q0, H', ⟨Nat.le_refl _⟩, My.dD⟩
    case round =>
      clear H'; (try clear p2); (try clear c3); (try clear c3b0); obtain ⟨x5_1, rfl, HA, HK1, ⟨m1, rfl⟩⟩ := hrel
      cases gk with
      | zero => exact absurd HA.out (by simp [batonref03_Few.l0])
      | succ k1 =>
        have H := HA.out; clear HA; simp only [batonref03_Few.l0] at H
        by_cases c4 : x5_1 < (l0.length : Int)
        · rw [if_pos c4] at H
          have c4b0 := decide_eq_true c4; clear c4
          by_cases c5 : 0 ≤ x5_1
          · rw [if_pos c5] at H
            have c5b0 := decide_eq_true c5; clear c5
            by_cases c6 : (((rd_T26 l0 x5_1).f0).size : Int) > 60
            · rw [if_pos c6] at H
              have c6b0 := decide_eq_true c6; have c6b1 : decide (60 < ((rd_T26 l0 x5_1).f0).size) = true := decide_eq_true (by omega); clear c6; obtain rfl := Option.some.inj H; have p101 : 0 ≤ (x5_1 : Int) := of_decide_eq_true My.as; have q101 : x5_1 < (l0.length : Int) := of_decide_eq_true My.as; obtain ⟨ad101, e101, hx101_0, hx101_1, hx101_2, hx101_3, hx101_4, hx101_5⟩ := at_T26 HR0.out x5_1 p101 q101; cases e101; replace p101 := eq_true p101; replace q101 := eq_true q101
              go_wp2
              go_ret
              exact ⟨My.q0, My.dD⟩
            · rw [if_neg c6] at H
              have c6b0 := decide_eq_false c6; have c6b1 : decide (60 < ((rd_T26 l0 x5_1).f0).size) = false := decide_eq_false (by omega); clear c6
              by_cases c7 : (((rd_T26 l0 x5_1).f1).size : Int) > 60
              · rw [if_pos c7] at H
                have c7b0 := decide_eq_true c7; have c7b1 : decide (60 < ((rd_T26 l0 x5_1).f1).size) = true := decide_eq_true (by omega); clear c7; obtain rfl := Option.some.inj H; have p101 : 0 ≤ (x5_1 : Int) := of_decide_eq_true My.as; have q101 : x5_1 < (l0.length : Int) := of_decide_eq_true My.as; obtain ⟨ad101, e101, hx101_0, hx101_1, hx101_2, hx101_3, hx101_4, hx101_5⟩ := at_T26 HR0.out x5_1 p101 q101; cases e101; replace p101 := eq_true p101; replace q101 := eq_true q101; have p102 : 0 ≤ (x5_1 : Int) := of_decide_eq_true My.as; have q102 : x5_1 < (l0.length : Int) := of_decide_eq_true My.as; obtain ⟨ad102, e102, hx102_0, hx102_1, hx102_2, hx102_3, hx102_4, hx102_5⟩ := at_T26 HR0.out x5_1 p102 q102; obtain rfl : ad101 = ad102 := (by injection e102); replace p102 := eq_true p102; replace q102 := eq_true q102
                go_wp2
                go_ret
                exact ⟨My.q0, My.dD⟩
              · rw [if_neg c7] at H
                have c7b0 := decide_eq_false c7; have c7b1 : decide (60 < ((rd_T26 l0 x5_1).f1).size) = false := decide_eq_false (by omega); clear c7; have H' := Aside0.mk H; clear H; have p101 : 0 ≤ (x5_1 : Int) := of_decide_eq_true My.as; have q101 : x5_1 < (l0.length : Int) := of_decide_eq_true My.as; obtain ⟨ad101, e101, hx101_0, hx101_1, hx101_2, hx101_3, hx101_4, hx101_5⟩ := at_T26 HR0.out x5_1 p101 q101; cases e101; replace p101 := eq_true p101; replace q101 := eq_true q101; have p102 : 0 ≤ (x5_1 : Int) := of_decide_eq_true My.as; have q102 : x5_1 < (l0.length : Int) := of_decide_eq_true My.as; obtain ⟨ad102, e102, hx102_0, hx102_1, hx102_2, hx102_3, hx102_4, hx102_5⟩ := at_T26 HR0.out x5_1 p102 q102; obtain rfl : ad101 = ad102 := (by injection e102); replace p102 := eq_true p102; replace q102 := eq_true q102
                go_wp2
                go_roundg k1
                case measure => have := HK1.out; omega
                case rel => exact ⟨(wrap64 (x5_1 + 1)), My.q0, H', ⟨by have := HK1.out; omega⟩, My.dD⟩
          · exact My.no c5 H
        · rw [if_neg c4] at H
          have c4b0 := decide_eq_false c4; clear c4; obtain rfl := Option.some.inj H
          go_wp2
          go_ret
          exact ⟨My.q0, My.dD⟩

end Go.Proofs.Ytaebmmjhokjdbaa.PM
