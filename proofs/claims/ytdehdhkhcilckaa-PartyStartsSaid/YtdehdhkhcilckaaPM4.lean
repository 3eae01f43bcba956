-- made by a program of this session (wip/tools/myprint.py over the kit's print) out of the translation; Lean checks it
import Derived.Test.YtdehdhkhcilckaaPM0
namespace Go.Proofs.Ytdehdhkhcilckaa.PM
open Go.RowKit Go.Proofs.YtdehdhkhcilckaaW.PrintWords Go.Proofs.YtdehdhkhcilckaaW.PrintLast Go.Proofs.YtdehdhkhcilckaaW.PrintMore
attribute [local go_sem] max2_int min2_int max_two min_two max_three min_three max_four min_four   -- for this text's walks alone
attribute [local go_sem high] Go.Proofs.Ytdehdhkhcilckaa.My.str_leq Go.Proofs.Ytdehdhkhcilckaa.My.str_gtr Go.Proofs.Ytdehdhkhcilckaa.My.str_geq
set_option linter.unusedVariables false
set_option linter.unusedSimpArgs false

/-! ### batonref16_Short: function 4 -/
def batonref16_Short.f (a0_0 : Int) (a0_1 : ByteArray) (a0_2 : Int) (a0_3 : ByteArray) (a0_4 : ByteArray) (a0_5 : Int) (a0_6 : Int) (a0_7 : Int) (a0_8 : Int) (a0_9 : Int) : Option (Bool) := if (a0_1.size : Int) ≤ 60 then (if (a0_3.size : Int) ≤ 60 then (some (decide ((a0_4.size : Int) ≤ 60))) else (some false)) else (some false)
set_option maxHeartbeats 80000000 in
set_option maxRecDepth 100000 in
theorem batonref16_Short.calls (a0_0 : Int) (a0_1 : ByteArray) (a0_2 : Int) (a0_3 : ByteArray) (a0_4 : ByteArray) (a0_5 : Int) (a0_6 : Int) (a0_7 : Int) (a0_8 : Int) (a0_9 : Int) (r : Bool) (w : World) (h : batonref16_Short.f a0_0 a0_1 a0_2 a0_3 a0_4 a0_5 a0_6 a0_7 a0_8 a0_9 = some r) :
    Calls Try.prog 4 #[.agg #[.int .i64 a0_0, .string a0_1, .int .i64 a0_2, .string a0_3, .string a0_4, .int .i64 a0_5, .int .i64 a0_6, .int .i64 a0_7, .int .i64 a0_8, .int .i64 a0_9]] w fun e w' => e = .returned (.bool r) ∧ Below w.heap.size w w' := by
  have hu24 := Try.underlying24; have HB := My.m (Below.refl w.heap.size w); have H : (if (a0_1.size : Int) ≤ 60 then (if (a0_3.size : Int) ≤ 60 then (some (decide ((a0_4.size : Int) ≤ 60))) else (some false)) else (some false)) = some r := h; clear h
  by_cases c2 : (a0_1.size : Int) ≤ 60
  · rw [if_pos c2] at H
    have c2b0 := decide_eq_true c2; have c2b1 : decide (a0_1.size ≤ 60) = true := decide_eq_true (by omega); clear c2
    by_cases c3 : (a0_3.size : Int) ≤ 60
    · rw [if_pos c3] at H
      have c3b0 := decide_eq_true c3; have c3b1 : decide (a0_3.size ≤ 60) = true := decide_eq_true (by omega); clear c3; obtain rfl := Option.some.inj H
      go_enter Try.func4, Try.ntmps4
      go_wp2_with (first | ((with_reducible refine gate_dst (N := 1) rfl ?_); (try (refine gate_guard (by rfl) ?_; dsimp only)); refine My.be 1 24 #[.int .i64 a0_0, .string a0_1, .int .i64 a0_2, .string a0_3, .string a0_4, .int .i64 a0_5, .int .i64 a0_6, .int .i64 a0_7, .int .i64 a0_8, .int .i64 a0_9] ?_; intro gb101 hg w4 hbox hb; have BK101 := My.m hbox; have GW101 := My.m ((My.nw w hg My.bB)); have GE101 := My.m ((My.nw w hg My.bB)); replace HB := My.m (below_step My.bB hb); clear hb hbox hg; obtain ⟨_, _, _, _, _, _, _, _, _, _⟩ := My.qc10 BK101.out; obtain ⟨_, _, _, _, _, _, _, _, _, _⟩ := My.qf10 BK101.out))
      go_ret
      exact ⟨My.q1, My.bA⟩
    · rw [if_neg c3] at H
      have c3b0 := decide_eq_false c3; have c3b1 : decide (a0_3.size ≤ 60) = false := decide_eq_false (by omega); clear c3; obtain rfl := Option.some.inj H
      go_enter Try.func4, Try.ntmps4
      go_wp2_with (first | ((with_reducible refine gate_dst (N := 1) rfl ?_); (try (refine gate_guard (by rfl) ?_; dsimp only)); refine My.be 1 24 #[.int .i64 a0_0, .string a0_1, .int .i64 a0_2, .string a0_3, .string a0_4, .int .i64 a0_5, .int .i64 a0_6, .int .i64 a0_7, .int .i64 a0_8, .int .i64 a0_9] ?_; intro gb101 hg w6 hbox hb; have BK101 := My.m hbox; have GW101 := My.m ((My.nw w hg My.bB)); have GE101 := My.m ((My.nw w hg My.bB)); replace HB := My.m (below_step My.bB hb); clear hb hbox hg; obtain ⟨_, _, _, _, _, _, _, _, _, _⟩ := My.qc10 BK101.out; obtain ⟨_, _, _, _, _, _, _, _, _, _⟩ := My.qf10 BK101.out))
      go_ret
      exact ⟨My.q1, My.bA⟩
  · rw [if_neg c2] at H
    have c2b0 := decide_eq_false c2; have c2b1 : decide (a0_1.size ≤ 60) = false := decide_eq_false (by omega); clear c2; obtain rfl := Option.some.inj H
    go_enter Try.func4, Try.ntmps4
    go_wp2_with (first | ((with_reducible refine gate_dst (N := 1) rfl ?_); (try (refine gate_guard (by rfl) ?_; dsimp only)); refine My.be 1 24 #[.int .i64 a0_0, .string a0_1, .int .i64 a0_2, .string a0_3, .string a0_4, .int .i64 a0_5, .int .i64 a0_6, .int .i64 a0_7, .int .i64 a0_8, .int .i64 a0_9] ?_; intro gb101 hg w8 hbox hb; have BK101 := My.m hbox; have GW101 := My.m ((My.nw w hg My.bB)); have GE101 := My.m ((My.nw w hg My.bB)); replace HB := My.m (below_step My.bB hb); clear hb hbox hg; obtain ⟨_, _, _, _, _, _, _, _, _, _⟩ := My.qc10 BK101.out; obtain ⟨_, _, _, _, _, _, _, _, _, _⟩ := My.qf10 BK101.out))
    go_ret
    exact ⟨My.q1, My.bA⟩

/-! ### batonref03_Few: function 5 -/
def batonref03_Few.l0 : Nat → List (S43) → Int → Option (Bool)
  | 0, _, _ => none
  | k + 1, x0, x5 => if x5 < (x0.length : Int) then (if 0 ≤ x5 then (if (((rd_T43 x0 x5).f0).size : Int) > 60 then (some false) else (if (((rd_T43 x0 x5).f1).size : Int) > 60 then (some false) else (batonref03_Few.l0 k x0 (wrap64 (x5 + 1))))) else (none)) else (some true)
def batonref03_Few.f (k : Nat) (l0 : List (S43)) (a1 : Int) : Option (Bool) := if (l0.length : Int) > a1 then (some false) else (batonref03_Few.l0 k l0 0)
theorem batonref03_Few.mono_l : ∀ k, (∀ y0 y1, LeO (batonref03_Few.l0 k y0 y1) (batonref03_Few.l0 (k + 1) y0 y1))
  | 0 => fun _ _ r h => by simp [batonref03_Few.l0] at h
  | k + 1 => by
    have ih0 := batonref03_Few.mono_l k
    · intro y0 y1
      unfold batonref03_Few.l0
      exact My.mono_
theorem batonref03_Few.mono : ∀ a0 a1 k, LeO (batonref03_Few.f k a0 a1) (batonref03_Few.f (k + 1) a0 a1) := by
  intro a0 a1 k
  have ih0 := batonref03_Few.mono_l k
  unfold batonref03_Few.f
  exact My.mono_
set_option maxHeartbeats 80000000 in
set_option maxRecDepth 100000 in
theorem batonref03_Few.calls (k : Nat) (A0 : Option Addr) (c0 : Nat) (l0 : List (S43)) (a1 : Int) (r : Bool) (w : World) (hr0 : Kd.C k43 w A0 l0.length l0) (hc0 : l0.length ≤ c0) (h : batonref03_Few.f k l0 a1 = some r) :
    Calls Try.prog 5 #[.slice A0 l0.length c0, .int .i64 a1] w fun e w' => e = .returned (.bool r) ∧ Drawn0 w w' := by
  have HR0 := Aside0.mk hr0; have HC0 := Aside0.mk hc0; clear hr0 hc0; have H : (if (l0.length : Int) > a1 then (some false) else (batonref03_Few.l0 k l0 0)) = some r := h; clear h
  by_cases c3 : (l0.length : Int) > a1
  · rw [if_pos c3] at H
    have c3b0 := decide_eq_true c3; clear c3; obtain rfl := Option.some.inj H
    go_enter Try.func5, Try.ntmps5
    go_wp2
    go_ret
    exact ⟨My.q0, My.dD⟩
  · rw [if_neg c3] at H
    have c3b0 := decide_eq_false c3; clear c3; have H' := Aside0.mk H; clear H
    go_enter Try.func5, Try.ntmps5
    go_wp2
    go_loopg [5] k (fun kq v5 w' => ∃ (x5_1 : Int), v5 = .int .i64 x5_1 ∧ Aside0 (batonref03_Few.l0 kq l0 x5_1 = some r) ∧ Aside0 (kq ≤ k) ∧ Drawn0 w w')
    case atStart => exact ⟨(0), My.q0, H', ⟨Nat.le_refl _⟩, My.dD⟩
    case round =>
      clear H'; (try clear p2); (try clear c3); (try clear c3b0); obtain ⟨x5_1, rfl, HA, HK1, ⟨m1, rfl⟩⟩ := hrel
      cases gk with
      | zero => exact absurd HA.out (by simp [batonref03_Few.l0])
      | succ k1 =>
        have H := HA.out; clear HA; simp only [batonref03_Few.l0] at H
        by_cases c4 : x5_1 < (l0.length : Int)
        · rw [if_pos c4] at H
          have c4b0 := decide_eq_true c4; clear c4
          by_cases c5 : 0 ≤ x5_1
          · rw [if_pos c5] at H
            have c5b0 := decide_eq_true c5; clear c5
            by_cases c6 : (((rd_T43 l0 x5_1).f0).size : Int) > 60
            · rw [if_pos c6] at H
              have c6b0 := decide_eq_true c6; have c6b1 : decide (60 < ((rd_T43 l0 x5_1).f0).size) = true := decide_eq_true (by omega); clear c6; obtain rfl := Option.some.inj H; have p102 : 0 ≤ (x5_1 : Int) := of_decide_eq_true My.as; have q102 : x5_1 < (l0.length : Int) := of_decide_eq_true My.as; obtain ⟨ad102, e102, hx102_0, hx102_1, hx102_2, hx102_3, hx102_4, hx102_5⟩ := at_T43 HR0.out x5_1 p102 q102; cases e102; replace p102 := eq_true p102; replace q102 := eq_true q102
              go_wp2
              go_ret
              exact ⟨My.q0, My.dD⟩
            · rw [if_neg c6] at H
              have c6b0 := decide_eq_false c6; have c6b1 : decide (60 < ((rd_T43 l0 x5_1).f0).size) = false := decide_eq_false (by omega); clear c6
              by_cases c7 : (((rd_T43 l0 x5_1).f1).size : Int) > 60
              · rw [if_pos c7] at H
                have c7b0 := decide_eq_true c7; have c7b1 : decide (60 < ((rd_T43 l0 x5_1).f1).size) = true := decide_eq_true (by omega); clear c7; obtain rfl := Option.some.inj H; have p102 : 0 ≤ (x5_1 : Int) := of_decide_eq_true My.as; have q102 : x5_1 < (l0.length : Int) := of_decide_eq_true My.as; obtain ⟨ad102, e102, hx102_0, hx102_1, hx102_2, hx102_3, hx102_4, hx102_5⟩ := at_T43 HR0.out x5_1 p102 q102; cases e102; replace p102 := eq_true p102; replace q102 := eq_true q102; have p103 : 0 ≤ (x5_1 : Int) := of_decide_eq_true My.as; have q103 : x5_1 < (l0.length : Int) := of_decide_eq_true My.as; obtain ⟨ad103, e103, hx103_0, hx103_1, hx103_2, hx103_3, hx103_4, hx103_5⟩ := at_T43 HR0.out x5_1 p103 q103; obtain rfl : ad102 = ad103 := (by injection e103); replace p103 := eq_true p103; replace q103 := eq_true q103
                go_wp2
                go_ret
                exact ⟨My.q0, My.dD⟩
              · rw [if_neg c7] at H
                have c7b0 := decide_eq_false c7; have c7b1 : decide (60 < ((rd_T43 l0 x5_1).f1).size) = false := decide_eq_false (by omega); clear c7; have H' := Aside0.mk H; clear H; have p102 : 0 ≤ (x5_1 : Int) := of_decide_eq_true My.as; have q102 : x5_1 < (l0.length : Int) := of_decide_eq_true My.as; obtain ⟨ad102, e102, hx102_0, hx102_1, hx102_2, hx102_3, hx102_4, hx102_5⟩ := at_T43 HR0.out x5_1 p102 q102; cases e102; replace p102 := eq_true p102; replace q102 := eq_true q102; have p103 : 0 ≤ (x5_1 : Int) := of_decide_eq_true My.as; have q103 : x5_1 < (l0.length : Int) := of_decide_eq_true My.as; obtain ⟨ad103, e103, hx103_0, hx103_1, hx103_2, hx103_3, hx103_4, hx103_5⟩ := at_T43 HR0.out x5_1 p103 q103; obtain rfl : ad102 = ad103 := (by injection e103); replace p103 := eq_true p103; replace q103 := eq_true q103
                go_wp2
                go_roundg k1
                case measure => have := HK1.out; omega
                case rel => exact ⟨(wrap64 (x5_1 + 1)), My.q0, H', ⟨by have := HK1.out; omega⟩, My.dD⟩
          · exact My.no c5 H
        · rw [if_neg c4] at H
          have c4b0 := decide_eq_false c4; clear c4; obtain rfl := Option.some.inj H
          go_wp2
          go_ret
          exact ⟨My.q0, My.dD⟩

/-! ### key_Name_1: function 30 -/
def key_Name_1.f (a0 : Int) : Option (Bool) := if a0 ≥ 97 then (if a0 ≤ 122 then (some true) else (if a0 ≥ 48 then (some (decide (a0 ≤ 57))) else (some false))) else (if a0 ≥ 48 then (some (decide (a0 ≤ 57))) else (some false))
set_option maxHeartbeats 80000000 in
set_option maxRecDepth 100000 in
theorem key_Name_1.calls (a0 : Int) (r : Bool) (w : World) (h : key_Name_1.f a0 = some r) :
    Calls Try.prog 30 #[.int .u8 a0] w fun e w' => e = .returned (.bool r) ∧ Drawn0 w w' := by
  have H : (if a0 ≥ 97 then (if a0 ≤ 122 then (some true) else (if a0 ≥ 48 then (some (decide (a0 ≤ 57))) else (some false))) else (if a0 ≥ 48 then (some (decide (a0 ≤ 57))) else (some false))) = some r := h; clear h
  by_cases c2 : a0 ≥ 97
  · rw [if_pos c2] at H
    have c2b0 := decide_eq_true c2; clear c2
    by_cases c3 : a0 ≤ 122
    · rw [if_pos c3] at H
      have c3b0 := decide_eq_true c3; clear c3; obtain rfl := Option.some.inj H
      go_enter Try.func30, Try.ntmps30
      go_wp2
      go_ret
      exact ⟨My.q0, My.dD⟩
    · rw [if_neg c3] at H
      have c3b0 := decide_eq_false c3; clear c3
      by_cases c4 : a0 ≥ 48
      · rw [if_pos c4] at H
        have c4b0 := decide_eq_true c4; clear c4; obtain rfl := Option.some.inj H
        go_enter Try.func30, Try.ntmps30
        go_wp2
        go_ret
        exact ⟨My.q0, My.dD⟩
      · rw [if_neg c4] at H
        have c4b0 := decide_eq_false c4; clear c4; obtain rfl := Option.some.inj H
        go_enter Try.func30, Try.ntmps30
        go_wp2
        go_ret
        exact ⟨My.q0, My.dD⟩
  · rw [if_neg c2] at H
    have c2b0 := decide_eq_false c2; clear c2
    by_cases c5 : a0 ≥ 48
    · rw [if_pos c5] at H
      have c5b0 := decide_eq_true c5; clear c5; obtain rfl := Option.some.inj H
      go_enter Try.func30, Try.ntmps30
      go_wp2
      go_ret
      exact ⟨My.q0, My.dD⟩
    · rw [if_neg c5] at H
      have c5b0 := decide_eq_false c5; clear c5; obtain rfl := Option.some.inj H
      go_enter Try.func30, Try.ntmps30
      go_wp2
      go_ret
      exact ⟨My.q0, My.dD⟩

end Go.Proofs.Ytdehdhkhcilckaa.PM
