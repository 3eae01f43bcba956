-- made by a program of this session (wip/tools/myprint.py over the kit's print) out of the translation; Lean checks it
import Derived.Test.YtfpkkjcefdighaaPM0
import Derived.Test.YtfpkkjcefdighaaPM3
import Derived.Test.YtfpkkjcefdighaaPM5
import Derived.Test.YtfpkkjcefdighaaPM6
import Derived.Test.YtfpkkjcefdighaaPM7
import Derived.Test.YtfpkkjcefdighaaPM9
import Derived.Test.YtfpkkjcefdighaaPM12
import Derived.Test.YtfpkkjcefdighaaPM13
namespace Go.Proofs.Ytfpkkjcefdighaa.PM
open Go.RowKit Go.Proofs.YtfpkkjcefdighaaW.PrintWords Go.Proofs.YtfpkkjcefdighaaW.PrintLast Go.Proofs.YtfpkkjcefdighaaW.PrintMore
attribute [local go_sem] max2_int min2_int max_two min_two max_three min_three max_four min_four   -- for this text's walks alone
attribute [local go_sem high] Go.Proofs.Ytfpkkjcefdighaa.My.str_leq Go.Proofs.Ytfpkkjcefdighaa.My.str_gtr Go.Proofs.Ytfpkkjcefdighaa.My.str_geq
set_option linter.unusedVariables false
set_option linter.unusedSimpArgs false

/-! ### batonref02_Flag: function 15 -/
def batonref02_Flag.f (k : Nat) (a0 : ByteArray) : Option (ByteArray × Bool) := (batonref02_Prefix.f k 6 a0).bind fun bt140 => (if bt140.2 = true then (if bt140.1.size + 4 ≤ 9223372036854775807 then (some (bt140.1 ++ (⟨#[111, 112, 101, 110]⟩ : ByteArray), true)) else (none)) else (some ((⟨#[]⟩ : ByteArray), false)))
theorem batonref02_Flag.mono : ∀ a0 k, LeO (batonref02_Flag.f k a0) (batonref02_Flag.f (k + 1) a0) := by
  intro a0 k
  unfold batonref02_Flag.f
  have ic0 := @batonref02_Prefix.mono; exact My.mono_
set_option maxHeartbeats 8000000 in
set_option maxRecDepth 100000 in
theorem batonref02_Flag.calls (k : Nat) (a0 : ByteArray) (r1 : ByteArray) (r2 : Bool) (w : World) (h : batonref02_Flag.f k a0 = some (r1, r2)) :
    Calls Try.prog 15 #[.string a0] w fun e w' => e = .returned (.tuple #[.string r1, .bool r2]) ∧ Drawn0 w w' := by
  have H : ((batonref02_Prefix.f k 6 a0).bind fun bt140 => (if bt140.2 = true then (if bt140.1.size + 4 ≤ 9223372036854775807 then (some (bt140.1 ++ (⟨#[111, 112, 101, 110]⟩ : ByteArray), true)) else (none)) else (some ((⟨#[]⟩ : ByteArray), false)))) = some (r1, r2) := h; clear h; replace H := Option.bind_eq_some_iff.mp H; obtain ⟨⟨t140, t141⟩, A20, H⟩ := H; replace H : (if t141 = true then (if t140.size + 4 ≤ 9223372036854775807 then (some (t140 ++ (⟨#[111, 112, 101, 110]⟩ : ByteArray), true)) else (none)) else (some ((⟨#[]⟩ : ByteArray), false))) = some (r1, r2) := H; have A2 := Aside0.mk A20; clear A20
  by_cases c3 : t141 = true
  · subst c3
    (have H1 : (if t140.size + 4 ≤ 9223372036854775807 then (some (t140 ++ (⟨#[111, 112, 101, 110]⟩ : ByteArray), true)) else (none)) = some (r1, r2) := by rw [if_pos rfl] at H; exact H); clear H; have H := H1; clear H1
    by_cases c4 : t140.size + 4 ≤ 9223372036854775807
    · rw [if_pos c4] at H
      have c4b0 := eq_true c4; have c4b1 : decide (t140.size + 4 ≤ 9223372036854775807) = true := decide_eq_true c4; (try have c4b2 : (9223372036854775807 < t140.size + 4) = False := eq_false (Nat.not_lt.2 c4)); simp only [Option.some.injEq, Prod.mk.injEq] at H; obtain ⟨rfl, rfl⟩ := H
      go_enter Try.func15, Try.ntmps15
      go_wp2_with (first | ((with_reducible refine gate_callee (f := 11) rfl ?_); refine goesL_ (some 8) rfl rfl Try.func11 (by kernel_rfl) rfl #[.int .i64 6, .string a0] rfl My.ar ?_; (with_reducible refine (batonref02_Prefix.calls k 6 a0 t140 true _ A2.out).mono ?_); rintro e w' ⟨rfl, ⟨nd, rfl⟩⟩; refine ⟨_, rfl, ?_⟩))
      go_ret2
      exact ⟨My.q0, My.dD⟩
    · exact My.no c4 H
  · replace c3 := Bool.eq_false_iff.mpr c3
    subst c3; (have H1 : (some ((⟨#[]⟩ : ByteArray), false)) = some (r1, r2) := by rw [if_neg (show ¬ (false = true) by decide)] at H; exact H); clear H; have H := H1; clear H1; simp only [Option.some.injEq, Prod.mk.injEq] at H; obtain ⟨rfl, rfl⟩ := H
    go_enter Try.func15, Try.ntmps15
    go_wp2_with (first | ((with_reducible refine gate_callee (f := 11) rfl ?_); refine goesL_ (some 8) rfl rfl Try.func11 (by kernel_rfl) rfl #[.int .i64 6, .string a0] rfl My.ar ?_; (with_reducible refine (batonref02_Prefix.calls k 6 a0 t140 false _ A2.out).mono ?_); rintro e w' ⟨rfl, ⟨nd, rfl⟩⟩; refine ⟨_, rfl, ?_⟩))
    go_ret2
    exact ⟨My.q0, My.dD⟩

/-! ### batonref02_Check: function 17 -/
mutual
def batonref02_Check.j0 : Nat → ByteArray → Bool → Option (Bool)
  | 0, _, _ => none
  | k + 1, x0, x11 => if x11 = true then (some false) else (batonref02_Check.l0 k x0 0)
def batonref02_Check.l0 : Nat → ByteArray → Int → Option (Bool)
  | 0, _, _ => none
  | k + 1, x0, x3 => if x3 < (x0.size : Int) then (if 0 ≤ x3 then (if (bt x0 x3) < 33 then (some false) else (if (bt x0 x3) > 126 then (some false) else (batonref02_Check.l0 k x0 (wrap64 (x3 + 1))))) else (none)) else (some true)
end
def batonref02_Check.f (k : Nat) (a0 : ByteArray) : Option (Bool) := if (a0.size : Int) < 1 then (batonref02_Check.j0 k a0 true) else (batonref02_Check.j0 k a0 (decide ((a0.size : Int) > 40)))
theorem batonref02_Check.mono_l : ∀ k, (∀ y0 y1, LeO (batonref02_Check.j0 k y0 y1) (batonref02_Check.j0 (k + 1) y0 y1)) ∧ (∀ y0 y1, LeO (batonref02_Check.l0 k y0 y1) (batonref02_Check.l0 (k + 1) y0 y1))
  | 0 => ⟨fun _ _ r h => by simp [batonref02_Check.j0] at h, fun _ _ r h => by simp [batonref02_Check.l0] at h⟩
  | k + 1 => by
    obtain ⟨ih0, ih1⟩ := batonref02_Check.mono_l k
    refine ⟨?_, ?_⟩
    · intro y0 y1
      unfold batonref02_Check.j0
      exact My.mono_
    · intro y0 y1
      unfold batonref02_Check.l0
      exact My.mono_
theorem batonref02_Check.mono : ∀ a0 k, LeO (batonref02_Check.f k a0) (batonref02_Check.f (k + 1) a0) := by
  intro a0 k
  obtain ⟨ih0, ih1⟩ := batonref02_Check.mono_l k
  unfold batonref02_Check.f
  exact My.mono_
set_option maxHeartbeats 8000000 in
set_option maxRecDepth 100000 in
theorem batonref02_Check.calls (k : Nat) (a0 : ByteArray) (r : Bool) (w : World) (h : batonref02_Check.f k a0 = some r) :
    Calls Try.prog 17 #[.string a0] w fun e w' => e = .returned (.bool r) ∧ Drawn0 w w' := by
  have H : (if (a0.size : Int) < 1 then (batonref02_Check.j0 k a0 true) else (batonref02_Check.j0 k a0 (decide ((a0.size : Int) > 40)))) = some r := h; clear h; have HC2 := Aside0.mk H; clear H
  go_enter Try.func17, Try.ntmps17
  go_upto_region 1 with (fail)
  go_cut [11] (fun v11 wc => ∃ (kq : Nat) (x11_1 : Bool), v11 = .bool x11_1 ∧ Aside0 (batonref02_Check.j0 kq a0 x11_1 = some r) ∧ Aside0 (kq ≤ k) ∧ Drawn0 w wc)
  case first =>
    have H := HC2.out; clear HC2
    by_cases c3 : (a0.size : Int) < 1
    · rw [if_pos c3] at H
      have c3b0 := decide_eq_true c3; have c3b1 : decide (a0.size < 1) = true := decide_eq_true (by omega); clear c3; (first | rw [c3b0] | (simp only [i64_w, i32_w]; rw [c3b0]) | skip); have H' := Aside0.mk H; clear H
      go_wp2
      go_meet
      case rel => exact ⟨_, (true), My.q0, H', ⟨by first | omega | exact Nat.le_refl _⟩, My.dD⟩
    · rw [if_neg c3] at H
      have c3b0 := decide_eq_false c3; have c3b1 : decide (a0.size < 1) = false := decide_eq_false (by omega); clear c3; (first | rw [c3b0] | (simp only [i64_w, i32_w]; rw [c3b0]) | skip); have H' := Aside0.mk H; clear H
      go_wp2
      go_meet
      case rel => exact ⟨_, (decide ((a0.size : Int) > 40)), My.q0, H', ⟨by first | omega | exact Nat.le_refl _⟩, My.dD⟩
  case rest =>
    clear HC2; (try clear c1); (try clear p2); (try clear c3); (try clear c3b0); (try clear c3b1); obtain ⟨kq, x11_1, rfl, HA, HJ1, ⟨mc1, rfl⟩⟩ := hcut
    cases kq with
    | zero => exact absurd HA.out (by simp [batonref02_Check.j0])
    | succ kj1 =>
      have H := HA.out; clear HA; simp only [batonref02_Check.j0] at H
      by_cases c4 : x11_1 = true
      · subst c4
        (have H1 : (some false) = some r := by rw [if_pos rfl] at H; exact H); clear H; have H := H1; clear H1; obtain rfl := Option.some.inj H
        go_wp2
        go_ret
        exact ⟨My.q0, My.dD⟩
      · replace c4 := Bool.eq_false_iff.mpr c4
        subst c4; (have H1 : (batonref02_Check.l0 kj1 a0 0) = some r := by rw [if_neg (show ¬ (false = true) by decide)] at H; exact H); clear H; have H := H1; clear H1; have H' := Aside0.mk H; clear H
        go_wp2
        go_loopg [3] kj1 (fun kq v3 w' => ∃ (x3_2 : Int), v3 = .int .i64 x3_2 ∧ Aside0 (batonref02_Check.l0 kq a0 x3_2 = some r) ∧ Aside0 (kq ≤ kj1) ∧ Drawn0 w w')
        case atStart => exact ⟨(0), My.q0, H', ⟨Nat.le_refl _⟩, My.dD⟩
        case round =>
          clear H'; (try clear c1); (try clear p2); (try clear c3); (try clear c3b0); (try clear c3b1); (try clear c4); (try clear p2); obtain ⟨x3_2, rfl, HA, HK2, ⟨m2, rfl⟩⟩ := hrel
          cases gk with
          | zero => exact absurd HA.out (by simp [batonref02_Check.l0])
          | succ k2 =>
            have H := HA.out; clear HA; simp only [batonref02_Check.l0] at H
            by_cases c5 : x3_2 < (a0.size : Int)
            · rw [if_pos c5] at H
              have c5b0 := decide_eq_true c5; clear c5
              by_cases c6 : 0 ≤ x3_2
              · rw [if_pos c6] at H
                have c6b0 := decide_eq_true c6; clear c6
                by_cases c8 : (bt a0 x3_2) < 33
                · rw [if_pos c8] at H
                  have c8b0 := decide_eq_true c8; clear c8; obtain rfl := Option.some.inj H; have p7 : 0 ≤ (x3_2 : Int) := of_decide_eq_true My.as; have q7 : x3_2 < (a0.size : Int) := of_decide_eq_true My.as; have hx7 := bt_at a0 x3_2; replace p7 := eq_true p7; replace q7 := eq_true q7
                  go_wp2
                  go_ret
                  exact ⟨My.q0, My.dD⟩
                · rw [if_neg c8] at H
                  have c8b0 := decide_eq_false c8; clear c8
                  by_cases c10 : (bt a0 x3_2) > 126
                  · rw [if_pos c10] at H
                    have c10b0 := decide_eq_true c10; clear c10; obtain rfl := Option.some.inj H; have p7 : 0 ≤ (x3_2 : Int) := of_decide_eq_true My.as; have q7 : x3_2 < (a0.size : Int) := of_decide_eq_true My.as; have hx7 := bt_at a0 x3_2; replace p7 := eq_true p7; replace q7 := eq_true q7; have p9 : 0 ≤ (x3_2 : Int) := of_decide_eq_true My.as; have q9 : x3_2 < (a0.size : Int) := of_decide_eq_true My.as; have hx9 := bt_at a0 x3_2; replace p9 := eq_true p9; replace q9 := eq_true q9
                    go_wp2
                    go_ret
                    exact ⟨My.q0, My.dD⟩
                  · rw [if_neg c10] at H
                    have c10b0 := decide_eq_false c10; clear c10; have H' := Aside0.mk H; clear H; have p7 : 0 ≤ (x3_2 : Int) := of_decide_eq_true My.as; have q7 : x3_2 < (a0.size : Int) := of_decide_eq_true My.as; have hx7 := bt_at a0 x3_2; replace p7 := eq_true p7; replace q7 := eq_true q7; have p9 : 0 ≤ (x3_2 : Int) := of_decide_eq_true My.as; have q9 : x3_2 < (a0.size : Int) := of_decide_eq_true My.as; have hx9 := bt_at a0 x3_2; replace p9 := eq_true p9; replace q9 := eq_true q9
                    go_wp2
                    go_roundg k2
                    case measure => have := HJ1.out; have := HK2.out; omega
                    case rel => exact ⟨(wrap64 (x3_2 + 1)), My.q0, H', ⟨by have := HJ1.out; have := HK2.out; omega⟩, My.dD⟩
              · exact My.no c6 H
            · rw [if_neg c5] at H
              have c5b0 := decide_eq_false c5; clear c5; obtain rfl := Option.some.inj H
              go_wp2
              go_ret
              exact ⟨My.q0, My.dD⟩

/-! ### batonlaw02_KeyTells: function 3 -/
def batonlaw02_KeyTells.f (k : Nat) (a0 : ByteArray) (a1 : Int) (a2 : Int) : Option (Bool) := if (a0.size : Int) > 100 then ((batonlaw02_live.f).bind fun t142 => (some t142)) else ((key_Prefix.f a1 a0).bind fun bt143 => ((batonref02_Prefix.f k a1 a0).bind fun bt145 => ((key_Ticket.f a1 a0 a2).bind fun bt147 => ((batonref02_Ticket.f k a1 a0 a2).bind fun bt149 => ((key_Flag.f a0).bind fun bt151 => ((batonref02_Flag.f k a0).bind fun bt153 => ((key_Check.f a0).bind fun t155 => ((batonref02_Check.f k a0).bind fun t156 => (if (t155 == t156) = true then ((key_Name.f a0).bind fun t157 => ((batonref02_Name.f k a0).bind fun t158 => (if (t157 == t158) = true then (if bt143.1.toList = bt145.1.toList then (if (bt143.2 == bt145.2) = true then (if bt147.1.toList = bt149.1.toList then (if (bt147.2 == bt149.2) = true then (if bt151.1.toList = bt153.1.toList then (if (bt151.2 == bt153.2) = true then ((batonlaw02_live.f).bind fun t159 => (some t159)) else (none)) else (none)) else (none)) else (none)) else (none)) else (none)) else (none)))) else (none))))))))))
theorem batonlaw02_KeyTells.mono : ∀ a0 a1 a2 k, LeO (batonlaw02_KeyTells.f k a0 a1 a2) (batonlaw02_KeyTells.f (k + 1) a0 a1 a2) := by
 intro a0 a1 a2 k
 unfold batonlaw02_KeyTells.f
 have ic0 := @batonref02_Check.mono; have ic1 := @batonref02_Flag.mono; have ic2 := @batonref02_Name.mono; have ic3 := @batonref02_Prefix.mono; have ic4 := @batonref02_Ticket.mono; exact My.mono_
set_option maxHeartbeats 8000000 in
set_option maxRecDepth 100000 in
theorem batonlaw02_KeyTells.calls (k : Nat) (a0 : ByteArray) (a1 : Int) (a2 : Int) (r : Bool) (w : World) (h : batonlaw02_KeyTells.f k a0 a1 a2 = some r) :
  Calls Try.prog 3 #[.string a0, .int .i64 a1, .int .i64 a2] w fun e w' => e = .returned (.bool r) ∧ Below w.heap.size w w' := by
 have HB := Aside0.mk (Below.refl w.heap.size w); have H : (if (a0.size : Int) > 100 then ((batonlaw02_live.f).bind fun t142 => (some t142)) else ((key_Prefix.f a1 a0).bind fun bt143 => ((batonref02_Prefix.f k a1 a0).bind fun bt145 => ((key_Ticket.f a1 a0 a2).bind fun bt147 => ((batonref02_Ticket.f k a1 a0 a2).bind fun bt149 => ((key_Flag.f a0).bind fun bt151 => ((batonref02_Flag.f k a0).bind fun bt153 => ((key_Check.f a0).bind fun t155 => ((batonref02_Check.f k a0).bind fun t156 => (if (t155 == t156) = true then ((key_Name.f a0).bind fun t157 => ((batonref02_Name.f k a0).bind fun t158 => (if (t157 == t158) = true then (if bt143.1.toList = bt145.1.toList then (if (bt143.2 == bt145.2) = true then (if bt147.1.toList = bt149.1.toList then (if (bt147.2 == bt149.2) = true then (if bt151.1.toList = bt153.1.toList then (if (bt151.2 == bt153.2) = true then ((batonlaw02_live.f).bind fun t159 => (some t159)) else (none)) else (none)) else (none)) else (none)) else (none)) else (none)) else (none)))) else (none))))))))))) = some r := h; clear h
 by_cases c4 : (a0.size : Int) > 100
 ·rw [if_pos c4] at H
  have c4b0 := decide_eq_true c4; have c4b1 : decide (100 < a0.size) = true := decide_eq_true (by omega); clear c4; replace H := Option.bind_eq_some_iff.mp H; obtain ⟨t142, A50, H⟩ := H; replace H : (some t142) = some r := H; have A5 := Aside0.mk A50; clear A50; obtain rfl := Option.some.inj H
  go_enter Try.func3, Try.ntmps3
  go_wp2_with (first | ((with_reducible refine gate_callee (f := 9) rfl ?_); refine goesL_ (some 22) rfl rfl Try.func9 (by kernel_rfl) rfl #[] rfl My.ar ?_; (with_reducible refine (batonlaw02_live.calls  t142 _ A5.out).mono ?_); rintro e w6 ⟨rfl, hb⟩; refine ⟨_, rfl, ?_⟩; have n0_ := Aside0.mk (below_step My.bB hb); clear HB; have HB := n0_; clear n0_))
  go_ret
  exact ⟨My.q1, My.bB⟩
 ·rw [if_neg c4] at H
  have c4b0 := decide_eq_false c4; have c4b1 : decide (100 < a0.size) = false := decide_eq_false (by omega); clear c4; replace H := Option.bind_eq_some_iff.mp H; obtain ⟨⟨t143, t144⟩, A70, H⟩ := H; replace H : ((batonref02_Prefix.f k a1 a0).bind fun bt145 => ((key_Ticket.f a1 a0 a2).bind fun bt147 => ((batonref02_Ticket.f k a1 a0 a2).bind fun bt149 => ((key_Flag.f a0).bind fun bt151 => ((batonref02_Flag.f k a0).bind fun bt153 => ((key_Check.f a0).bind fun t155 => ((batonref02_Check.f k a0).bind fun t156 => (if (t155 == t156) = true then ((key_Name.f a0).bind fun t157 => ((batonref02_Name.f k a0).bind fun t158 => (if (t157 == t158) = true then (if t143.toList = bt145.1.toList then (if (t144 == bt145.2) = true then (if bt147.1.toList = bt149.1.toList then (if (bt147.2 == bt149.2) = true then (if bt151.1.toList = bt153.1.toList then (if (bt151.2 == bt153.2) = true then ((batonlaw02_live.f).bind fun t159 => (some t159)) else (none)) else (none)) else (none)) else (none)) else (none)) else (none)) else (none)))) else (none))))))))) = some r := H; have A7 := Aside0.mk A70; clear A70; replace H := Option.bind_eq_some_iff.mp H; obtain ⟨⟨t145, t146⟩, A80, H⟩ := H; replace H : ((key_Ticket.f a1 a0 a2).bind fun bt147 => ((batonref02_Ticket.f k a1 a0 a2).bind fun bt149 => ((key_Flag.f a0).bind fun bt151 => ((batonref02_Flag.f k a0).bind fun bt153 => ((key_Check.f a0).bind fun t155 => ((batonref02_Check.f k a0).bind fun t156 => (if (t155 == t156) = true then ((key_Name.f a0).bind fun t157 => ((batonref02_Name.f k a0).bind fun t158 => (if (t157 == t158) = true then (if t143.toList = t145.toList then (if (t144 == t146) = true then (if bt147.1.toList = bt149.1.toList then (if (bt147.2 == bt149.2) = true then (if bt151.1.toList = bt153.1.toList then (if (bt151.2 == bt153.2) = true then ((batonlaw02_live.f).bind fun t159 => (some t159)) else (none)) else (none)) else (none)) else (none)) else (none)) else (none)) else (none)))) else (none)))))))) = some r := H; have A8 := Aside0.mk A80; clear A80; replace H := Option.bind_eq_some_iff.mp H; obtain ⟨⟨t147, t148⟩, A90, H⟩ := H; replace H : ((batonref02_Ticket.f k a1 a0 a2).bind fun bt149 => ((key_Flag.f a0).bind fun bt151 => ((batonref02_Flag.f k a0).bind fun bt153 => ((key_Check.f a0).bind fun t155 => ((batonref02_Check.f k a0).bind fun t156 => (if (t155 == t156) = true then ((key_Name.f a0).bind fun t157 => ((batonref02_Name.f k a0).bind fun t158 => (if (t157 == t158) = true then (if t143.toList = t145.toList then (if (t144 == t146) = true then (if t147.toList = bt149.1.toList then (if (t148 == bt149.2) = true then (if bt151.1.toList = bt153.1.toList then (if (bt151.2 == bt153.2) = true then ((batonlaw02_live.f).bind fun t159 => (some t159)) else (none)) else (none)) else (none)) else (none)) else (none)) else (none)) else (none)))) else (none))))))) = some r := H; have A9 := Aside0.mk A90; clear A90; replace H := Option.bind_eq_some_iff.mp H; obtain ⟨⟨t149, t150⟩, A100, H⟩ := H; replace H : ((key_Flag.f a0).bind fun bt151 => ((batonref02_Flag.f k a0).bind fun bt153 => ((key_Check.f a0).bind fun t155 => ((batonref02_Check.f k a0).bind fun t156 => (if (t155 == t156) = true then ((key_Name.f a0).bind fun t157 => ((batonref02_Name.f k a0).bind fun t158 => (if (t157 == t158) = true then (if t143.toList = t145.toList then (if (t144 == t146) = true then (if t147.toList = t149.toList then (if (t148 == t150) = true then (if bt151.1.toList = bt153.1.toList then (if (bt151.2 == bt153.2) = true then ((batonlaw02_live.f).bind fun t159 => (some t159)) else (none)) else (none)) else (none)) else (none)) else (none)) else (none)) else (none)))) else (none)))))) = some r := H; have A10 := Aside0.mk A100; clear A100; replace H := Option.bind_eq_some_iff.mp H; obtain ⟨⟨t151, t152⟩, A110, H⟩ := H; replace H : ((batonref02_Flag.f k a0).bind fun bt153 => ((key_Check.f a0).bind fun t155 => ((batonref02_Check.f k a0).bind fun t156 => (if (t155 == t156) = true then ((key_Name.f a0).bind fun t157 => ((batonref02_Name.f k a0).bind fun t158 => (if (t157 == t158) = true then (if t143.toList = t145.toList then (if (t144 == t146) = true then (if t147.toList = t149.toList then (if (t148 == t150) = true then (if t151.toList = bt153.1.toList then (if (t152 == bt153.2) = true then ((batonlaw02_live.f).bind fun t159 => (some t159)) else (none)) else (none)) else (none)) else (none)) else (none)) else (none)) else (none)))) else (none))))) = some r := H; have A11 := Aside0.mk A110; clear A110; replace H := Option.bind_eq_some_iff.mp H; obtain ⟨⟨t153, t154⟩, A120, H⟩ := H; replace H : ((key_Check.f a0).bind fun t155 => ((batonref02_Check.f k a0).bind fun t156 => (if (t155 == t156) = true then ((key_Name.f a0).bind fun t157 => ((batonref02_Name.f k a0).bind fun t158 => (if (t157 == t158) = true then (if t143.toList = t145.toList then (if (t144 == t146) = true then (if t147.toList = t149.toList then (if (t148 == t150) = true then (if t151.toList = t153.toList then (if (t152 == t154) = true then ((batonlaw02_live.f).bind fun t159 => (some t159)) else (none)) else (none)) else (none)) else (none)) else (none)) else (none)) else (none)))) else (none)))) = some r := H; have A12 := Aside0.mk A120; clear A120; replace H := Option.bind_eq_some_iff.mp H; obtain ⟨t155, A130, H⟩ := H; replace H : ((batonref02_Check.f k a0).bind fun t156 => (if (t155 == t156) = true then ((key_Name.f a0).bind fun t157 => ((batonref02_Name.f k a0).bind fun t158 => (if (t157 == t158) = true then (if t143.toList = t145.toList then (if (t144 == t146) = true then (if t147.toList = t149.toList then (if (t148 == t150) = true then (if t151.toList = t153.toList then (if (t152 == t154) = true then ((batonlaw02_live.f).bind fun t159 => (some t159)) else (none)) else (none)) else (none)) else (none)) else (none)) else (none)) else (none)))) else (none))) = some r := H; have A13 := Aside0.mk A130; clear A130; replace H := Option.bind_eq_some_iff.mp H; obtain ⟨t156, A140, H⟩ := H; replace H : (if (t155 == t156) = true then ((key_Name.f a0).bind fun t157 => ((batonref02_Name.f k a0).bind fun t158 => (if (t157 == t158) = true then (if t143.toList = t145.toList then (if (t144 == t146) = true then (if t147.toList = t149.toList then (if (t148 == t150) = true then (if t151.toList = t153.toList then (if (t152 == t154) = true then ((batonlaw02_live.f).bind fun t159 => (some t159)) else (none)) else (none)) else (none)) else (none)) else (none)) else (none)) else (none)))) else (none)) = some r := H
  have A14 := Aside0.mk A140; clear A140
  by_cases c15 : (t155 == t156) = true
  ·rw [if_pos c15] at H
   have c15b0 : (t155 == t156) = true := c15; (try (have c15b1 : decide (t155 = t156) = true := by simpa using c15)); (try (have c15b2 : (t155 == t156) = true := by simpa using c15)); clear c15; replace H := Option.bind_eq_some_iff.mp H; obtain ⟨t157, A160, H⟩ := H; replace H : ((batonref02_Name.f k a0).bind fun t158 => (if (t157 == t158) = true then (if t143.toList = t145.toList then (if (t144 == t146) = true then (if t147.toList = t149.toList then (if (t148 == t150) = true then (if t151.toList = t153.toList then (if (t152 == t154) = true then ((batonlaw02_live.f).bind fun t159 => (some t159)) else (none)) else (none)) else (none)) else (none)) else (none)) else (none)) else (none))) = some r := H; have A16 := Aside0.mk A160; clear A160; replace H := Option.bind_eq_some_iff.mp H; obtain ⟨t158, A170, H⟩ := H; replace H : (if (t157 == t158) = true then (if t143.toList = t145.toList then (if (t144 == t146) = true then (if t147.toList = t149.toList then (if (t148 == t150) = true then (if t151.toList = t153.toList then (if (t152 == t154) = true then ((batonlaw02_live.f).bind fun t159 => (some t159)) else (none)) else (none)) else (none)) else (none)) else (none)) else (none)) else (none)) = some r := H; have A17 := Aside0.mk A170; clear A170
   by_cases c18 : (t157 == t158) = true
   ·rw [if_pos c18] at H
    have c18b0 : (t157 == t158) = true := c18; (try (have c18b1 : decide (t157 = t158) = true := by simpa using c18)); (try (have c18b2 : (t157 == t158) = true := by simpa using c18)); clear c18
    by_cases c19 : t143.toList = t145.toList
    ·rw [if_pos c19] at H
     have c19b0 : (t143.toList == t145.toList) = true := beq_iff_eq.mpr c19; have c19b1 : (t143.toList != t145.toList) = false := bne_eq_false_iff_eq.mpr c19; clear c19
     by_cases c20 : (t144 == t146) = true
     ·rw [if_pos c20] at H
      have c20b0 : (t144 == t146) = true := c20; (try (have c20b1 : decide (t144 = t146) = true := by simpa using c20)); (try (have c20b2 : (t144 == t146) = true := by simpa using c20)); clear c20
      by_cases c21 : t147.toList = t149.toList
      ·rw [if_pos c21] at H
       have c21b0 : (t147.toList == t149.toList) = true := beq_iff_eq.mpr c21; have c21b1 : (t147.toList != t149.toList) = false := bne_eq_false_iff_eq.mpr c21; clear c21
       by_cases c22 : (t148 == t150) = true
       ·rw [if_pos c22] at H
        have c22b0 : (t148 == t150) = true := c22; (try (have c22b1 : decide (t148 = t150) = true := by simpa using c22)); (try (have c22b2 : (t148 == t150) = true := by simpa using c22)); clear c22
        by_cases c23 : t151.toList = t153.toList
        ·rw [if_pos c23] at H
         have c23b0 : (t151.toList == t153.toList) = true := beq_iff_eq.mpr c23; have c23b1 : (t151.toList != t153.toList) = false := bne_eq_false_iff_eq.mpr c23; clear c23
         by_cases c24 : (t152 == t154) = true
         ·rw [if_pos c24] at H
          have c24b0 : (t152 == t154) = true := c24; (try (have c24b1 : decide (t152 = t154) = true := by simpa using c24)); (try (have c24b2 : (t152 == t154) = true := by simpa using c24)); clear c24; replace H := Option.bind_eq_some_iff.mp H; obtain ⟨t159, A250, H⟩ := H; replace H : (some t159) = some r := H; have A25 := Aside0.mk A250; clear A250; obtain rfl := Option.some.inj H
          go_enter Try.func3, Try.ntmps3
          go_wp2_with (first | ((with_reducible refine gate_callee (f := 10) rfl ?_); refine goesL_ (some 26) rfl rfl Try.func10 (by kernel_rfl) rfl #[.int .i64 a1, .string a0] rfl My.ar ?_; (with_reducible refine (key_Prefix.calls a1 a0 t143 t144 _ A7.out).mono ?_); rintro e w26 ⟨rfl, hb⟩; refine ⟨_, rfl, ?_⟩; have n0_ := Aside0.mk (below_step My.bB hb); clear HB; have HB := n0_; clear n0_) | ((with_reducible refine gate_callee (f := 11) rfl ?_); refine goesL_ (some 32) rfl rfl Try.func11 (by kernel_rfl) rfl #[.int .i64 a1, .string a0] rfl My.ar ?_; (with_reducible refine (batonref02_Prefix.calls k a1 a0 t145 t146 _ A8.out).mono ?_); rintro e w' ⟨rfl, ⟨nd, rfl⟩⟩; refine ⟨_, rfl, ?_⟩) | ((with_reducible refine gate_callee (f := 12) rfl ?_); refine goesL_ (some 39) rfl rfl Try.func12 (by kernel_rfl) rfl #[.int .i64 a1, .string a0, .int .i64 a2] rfl My.ar ?_; (with_reducible refine (key_Ticket.calls a1 a0 a2 t147 t148 _ A9.out).mono ?_); rintro e w27 ⟨rfl, hb⟩; refine ⟨_, rfl, ?_⟩; have n0_ := Aside0.mk (below_step My.bB hb); clear HB; have HB := n0_; clear n0_) | ((with_reducible refine gate_callee (f := 13) rfl ?_); refine goesL_ (some 46) rfl rfl Try.func13 (by kernel_rfl) rfl #[.int .i64 a1, .string a0, .int .i64 a2] rfl My.ar ?_; (with_reducible refine (batonref02_Ticket.calls k a1 a0 a2 t149 t150 _ A10.out).mono ?_); rintro e w' ⟨rfl, ⟨nd, rfl⟩⟩; refine ⟨_, rfl, ?_⟩) | ((with_reducible refine gate_callee (f := 14) rfl ?_); refine goesL_ (some 51) rfl rfl Try.func14 (by kernel_rfl) rfl #[.string a0] rfl My.ar ?_; (with_reducible refine (key_Flag.calls a0 t151 t152 _ A11.out).mono ?_); rintro e w28 ⟨rfl, hb⟩; refine ⟨_, rfl, ?_⟩; have n0_ := Aside0.mk (below_step My.bB hb); clear HB; have HB := n0_; clear n0_) | ((with_reducible refine gate_callee (f := 15) rfl ?_); refine goesL_ (some 56) rfl rfl Try.func15 (by kernel_rfl) rfl #[.string a0] rfl My.ar ?_; (with_reducible refine (batonref02_Flag.calls k a0 t153 t154 _ A12.out).mono ?_); rintro e w' ⟨rfl, ⟨nd, rfl⟩⟩; refine ⟨_, rfl, ?_⟩) | ((with_reducible refine gate_callee (f := 16) rfl ?_); refine goesL_ (some 60) rfl rfl Try.func16 (by kernel_rfl) rfl #[.string a0] rfl My.ar ?_; (with_reducible refine (key_Check.calls a0 t155 _ A13.out).mono ?_); rintro e w29 ⟨rfl, hb⟩; refine ⟨_, rfl, ?_⟩; have n0_ := Aside0.mk (below_step My.bB hb); clear HB; have HB := n0_; clear n0_) | ((with_reducible refine gate_callee (f := 17) rfl ?_); refine goesL_ (some 62) rfl rfl Try.func17 (by kernel_rfl) rfl #[.string a0] rfl My.ar ?_; (with_reducible refine (batonref02_Check.calls k a0 t156 _ A14.out).mono ?_); rintro e w' ⟨rfl, ⟨nd, rfl⟩⟩; refine ⟨_, rfl, ?_⟩) | (go_at_call 18; (with_reducible refine (key_Name.calls a0 t157 _ A16.out).mono ?_); rintro e w30 ⟨rfl, hb⟩; have n0_ := Aside0.mk (below_step My.bB hb); clear HB; have HB := n0_; clear n0_) | (go_at_call 19; (with_reducible refine (batonref02_Name.calls k a0 t158 _ A17.out).mono ?_); rintro e w' ⟨rfl, ⟨nd, rfl⟩⟩) | (go_at_call 9; (with_reducible refine (batonlaw02_live.calls  t159 _ A25.out).mono ?_); rintro e w31 ⟨rfl, hb⟩; have n0_ := Aside0.mk (below_step My.bB hb); clear HB; have HB := n0_; clear n0_))
          go_ret
          exact ⟨My.q1, My.bB⟩
         ·exact My.no c24 H
        ·exact My.no c23 H
       ·exact My.no c22 H
      ·exact My.no c21 H
     ·exact My.no c20 H
    ·exact My.no c19 H
   ·exact My.no c18 H
  ·exact My.no c15 H

/-! ### batonref02_Id: function 21 -/
mutual
def batonref02_Id.j0 : Nat → ByteArray → ByteArray → Bool → Option (Int × Bool)
 | 0, _, _, _ => none
 | k + 1, x0, x1, x21 => if x21 = true then (some (0, false)) else (batonref02_Id.l0 k x1 0 (x0.size : Int))
def batonref02_Id.l0 : Nat → ByteArray → Int → Int → Option (Int × Bool)
 | 0, _, _, _ => none
 | k + 1, x1, x6, x7 => if x7 < (x1.size : Int) then (if 0 ≤ x7 then (if (bt x1 x7) ≥ 48 then (batonref02_Id.j2 k x1 x6 x7 (decide ((bt x1 x7) ≤ 57))) else (batonref02_Id.j2 k x1 x6 x7 false)) else (none)) else (some (x6, true))
def batonref02_Id.j2 : Nat → ByteArray → Int → Int → Bool → Option (Int × Bool)
 | 0, _, _, _, _ => none
 | k + 1, x1, x6, x7, x30 => if x30 = true then (if 0 ≤ x7 then (if x7 < (x1.size : Int) then (batonref02_Id.l0 k x1 (wrap64 ((wrap64 (16 * x6)) + (((bt x1 x7) - 48) % 256))) (wrap64 (x7 + 1))) else (none)) else (none)) else (if 0 ≤ x7 then (if x7 < (x1.size : Int) then (if (bt x1 x7) ≥ 97 then (if (bt x1 x7) ≤ 102 then (batonref02_Id.l0 k x1 (wrap64 ((wrap64 ((wrap64 (16 * x6)) + (((bt x1 x7) - 97) % 256))) + 10)) (wrap64 (x7 + 1))) else (some (0, false))) else (some (0, false))) else (none)) else (none))
end
def batonref02_Id.f (k : Nat) (a0 : ByteArray) (a1 : ByteArray) : Option (Int × Bool) := if (wrap64 ((a1.size : Int) - 10)) = (a0.size : Int) then (if 0 ≤ (a0.size : Int) then (if (a0.size : Int) ≤ (a1.size : Int) then (batonref02_Id.j0 k a0 a1 ((a1.extract 0 ((a0.size : Int) : Int).toNat).toList != a0.toList)) else (none)) else (none)) else (batonref02_Id.j0 k a0 a1 true)
theorem batonref02_Id.mono_l : ∀ k, (∀ y0 y1 y2, LeO (batonref02_Id.j0 k y0 y1 y2) (batonref02_Id.j0 (k + 1) y0 y1 y2)) ∧ (∀ y0 y1 y2, LeO (batonref02_Id.l0 k y0 y1 y2) (batonref02_Id.l0 (k + 1) y0 y1 y2)) ∧ (∀ y0 y1 y2 y3, LeO (batonref02_Id.j2 k y0 y1 y2 y3) (batonref02_Id.j2 (k + 1) y0 y1 y2 y3))
 | 0 => ⟨fun _ _ _ r h => by simp [batonref02_Id.j0] at h, fun _ _ _ r h => by simp [batonref02_Id.l0] at h, fun _ _ _ _ r h => by simp [batonref02_Id.j2] at h⟩
 | k + 1 => by
  obtain ⟨ih0, ih1, ih2⟩ := batonref02_Id.mono_l k
  refine ⟨?_, ?_, ?_⟩
  ·intro y0 y1 y2
   unfold batonref02_Id.j0
   exact My.mono_
  ·intro y0 y1 y2
   unfold batonref02_Id.l0
   exact My.mono_
  ·intro y0 y1 y2 y3
   unfold batonref02_Id.j2
   exact My.mono_
theorem batonref02_Id.mono : ∀ a0 a1 k, LeO (batonref02_Id.f k a0 a1) (batonref02_Id.f (k + 1) a0 a1) := by
 intro a0 a1 k
 obtain ⟨ih0, ih1, ih2⟩ := batonref02_Id.mono_l k
 unfold batonref02_Id.f
 exact My.mono_
set_option maxHeartbeats 8000000 in
set_option maxRecDepth 100000 in
theorem batonref02_Id.calls (k : Nat) (a0 : ByteArray) (a1 : ByteArray) (r1 : Int) (r2 : Bool) (w : World) (h : batonref02_Id.f k a0 a1 = some (r1, r2)) :
  Calls Try.prog 21 #[.string a0, .string a1] w fun e w' => e = .returned (.tuple #[.int .i64 r1, .bool r2]) ∧ Drawn0 w w' := by
 have H : (if (wrap64 ((a1.size : Int) - 10)) = (a0.size : Int) then (if 0 ≤ (a0.size : Int) then (if (a0.size : Int) ≤ (a1.size : Int) then (batonref02_Id.j0 k a0 a1 ((a1.extract 0 ((a0.size : Int) : Int).toNat).toList != a0.toList)) else (none)) else (none)) else (batonref02_Id.j0 k a0 a1 true)) = some (r1, r2) := h; clear h; have HC3 := Aside0.mk H; clear H
 go_enter Try.func21, Try.ntmps21
 go_upto_region 1 with (fail)
 go_cut [21] (fun v21 wc => ∃ (kq : Nat) (x21_2 : Bool), v21 = .bool x21_2 ∧ Aside0 (batonref02_Id.j0 kq a0 a1 x21_2 = some (r1, r2)) ∧ Aside0 (kq ≤ k) ∧ Drawn0 w wc)
 case first =>
  have H := HC3.out; clear HC3
  by_cases c4 : (wrap64 ((a1.size : Int) - 10)) = (a0.size : Int)
  ·rw [if_pos c4] at H
   have c4b0 : ((wrap64 ((a1.size : Int) - 10)) == (a0.size : Int)) = true := beq_iff_eq.mpr c4; have c4b1 : ((wrap64 ((a1.size : Int) - 10)) != (a0.size : Int)) = false := bne_eq_false_iff_eq.mpr c4; clear c4; (first | rw [c4b0] | (simp only [i64_w, i32_w]; rw [c4b0]) | skip)
   by_cases c5 : 0 ≤ (a0.size : Int)
   ·rw [if_pos c5] at H
    have c5b0 := eq_true c5; have c5b1 : decide (0 ≤ (a0.size : Int)) = true := decide_eq_true c5; clear c5
    by_cases c6 : (a0.size : Int) ≤ (a1.size : Int)
    ·rw [if_pos c6] at H
     have c6b0 := eq_true c6; have c6b1 : decide ((a0.size : Int) ≤ (a1.size : Int)) = true := decide_eq_true c6; clear c6; have H' := Aside0.mk H; clear H
     go_wp2
     go_meet
     case rel => exact ⟨_, (((a1.extract 0 ((a0.size : Int) : Int).toNat).toList != a0.toList)), My.q0, H', ⟨by first | omega | exact Nat.le_refl _⟩, My.dD⟩
    ·exact My.no c6 H
   ·exact My.no c5 H
  ·rw [if_neg c4] at H
   have c4b0 : ((wrap64 ((a1.size : Int) - 10)) == (a0.size : Int)) = false := beq_eq_false_iff_ne.mpr c4; have c4b1 : ((wrap64 ((a1.size : Int) - 10)) != (a0.size : Int)) = true := bne_iff_ne.mpr c4; (first | rw [c4b0] | (simp only [i64_w, i32_w]; rw [c4b0]) | skip); have H' := Aside0.mk H; clear H
   go_wp2
   go_meet
   case rel => exact ⟨_, (true), My.q0, H', ⟨by first | omega | exact Nat.le_refl _⟩, My.dD⟩
 case rest =>
  clear HC3; (try clear c2); (try clear p2); (try clear c4); (try clear c4b0); (try clear c4b1); (try clear c5); (try clear c5b0); (try clear c5b1); (try clear c6); (try clear c6b0); (try clear c6b1); (try clear p6); obtain ⟨kq, x21_2, rfl, HA, HJ2, ⟨mc2, rfl⟩⟩ := hcut
  cases kq with
  | zero => exact absurd HA.out (by simp [batonref02_Id.j0])
  | succ kj2 =>
   have H := HA.out; clear HA; simp only [batonref02_Id.j0] at H
   by_cases c7 : x21_2 = true
   ·subst c7
    (have H1 : (some (0, false)) = some (r1, r2) := by rw [if_pos rfl] at H; exact H); clear H; have H := H1; clear H1; simp only [Option.some.injEq, Prod.mk.injEq] at H; obtain ⟨rfl, rfl⟩ := H
    go_wp2
    go_ret2
    exact ⟨My.q0, My.dD⟩
   ·replace c7 := Bool.eq_false_iff.mpr c7
    subst c7; (have H1 : (batonref02_Id.l0 kj2 a1 0 (a0.size : Int)) = some (r1, r2) := by rw [if_neg (show ¬ (false = true) by decide)] at H; exact H); clear H; have H := H1; clear H1; have H' := Aside0.mk H; clear H
    go_wp2
    go_loopg [6, 7] kj2 (fun kq v6 v7 w' => ∃ (x6_2 : Int) (x7_2 : Int), v6 = .int .i64 x6_2 ∧ v7 = .int .i64 x7_2 ∧ Aside0 (batonref02_Id.l0 kq a1 x6_2 x7_2 = some (r1, r2)) ∧ Aside0 (kq ≤ kj2) ∧ Drawn0 w w')
    case atStart => exact ⟨(0), ((a0.size : Int)), My.q0, My.q0, H', ⟨Nat.le_refl _⟩, My.dD⟩
    case round =>
     clear H'; (try clear c2); (try clear p2); (try clear c4); (try clear c4b0); (try clear c4b1); (try clear c5); (try clear c5b0); (try clear c5b1); (try clear c6); (try clear c6b0); (try clear c6b1); (try clear p6); (try clear c7); (try clear p2); (try clear p6); obtain ⟨x6_2, x7_2, rfl, rfl, HA, HK2, ⟨m2, rfl⟩⟩ := hrel
     cases gk with
     | zero => exact absurd HA.out (by simp [batonref02_Id.l0])
     | succ k2 =>
      have H := HA.out; clear HA; simp only [batonref02_Id.l0] at H
      by_cases c8 : x7_2 < (a1.size : Int)
      ·rw [if_pos c8] at H
       have c8b0 := decide_eq_true c8; clear c8; have HC9 := Aside0.mk H; clear H
       go_upto_region 8 with (fail)
       go_cut [30] (fun v30 wc => ∃ (kq : Nat) (x30_8 : Bool), v30 = .bool x30_8 ∧ Aside0 (batonref02_Id.j2 kq a1 x6_2 x7_2 x30_8 = some (r1, r2)) ∧ Aside0 (kq ≤ k2) ∧ Drawn0 w wc)
       case first =>
        have H := HC9.out; clear HC9
        by_cases c10 : 0 ≤ x7_2
        ·rw [if_pos c10] at H
         have c10b0 := decide_eq_true c10; clear c10; (first | rw [c10b0] | (simp only [i64_w, i32_w]; rw [c10b0]) | skip)
         by_cases c12 : (bt a1 x7_2) ≥ 48
         ·rw [if_pos c12] at H
          have c12b0 := decide_eq_true c12; clear c12; have H' := Aside0.mk H; clear H; have p11 : 0 ≤ (x7_2 : Int) := of_decide_eq_true My.as; have q11 : x7_2 < (a1.size : Int) := of_decide_eq_true My.as; have hx11 := bt_at a1 x7_2; replace p11 := eq_true p11; replace q11 := eq_true q11; have p13 : 0 ≤ (x7_2 : Int) := of_decide_eq_true My.as; have q13 : x7_2 < (a1.size : Int) := of_decide_eq_true My.as; have hx13 := bt_at a1 x7_2; replace p13 := eq_true p13; replace q13 := eq_true q13
          go_wp2
          go_meet
          case rel => exact ⟨_, (decide ((bt a1 x7_2) ≤ 57)), My.q0, H', ⟨by have := HJ2.out; have := HK2.out; first | omega | exact Nat.le_refl _⟩, My.dD⟩
         ·rw [if_neg c12] at H
          have c12b0 := decide_eq_false c12; clear c12; have H' := Aside0.mk H; clear H; have p11 : 0 ≤ (x7_2 : Int) := of_decide_eq_true My.as; have q11 : x7_2 < (a1.size : Int) := of_decide_eq_true My.as; have hx11 := bt_at a1 x7_2; replace p11 := eq_true p11; replace q11 := eq_true q11
          go_wp2
          go_meet
          case rel => exact ⟨_, (false), My.q0, H', ⟨by have := HJ2.out; have := HK2.out; first | omega | exact Nat.le_refl _⟩, My.dD⟩
        ·exact My.no c10 H
       case rest =>
        clear HC9; (try clear c1); (try clear p1); (try clear q1); (try clear hx1); (try clear c2); (try clear p2); (try clear c4); (try clear c4b0); (try clear c4b1); (try clear c5); (try clear c5b0); (try clear c5b1); (try clear c6); (try clear c6b0); (try clear c6b1); (try clear p6); (try clear c7); (try clear c8); (try clear c8b0); (try clear c10); (try clear c10b0); (try clear p11); (try clear q11); (try clear hx11); (try clear c12); (try clear c12b0); (try clear p13); (try clear q13); (try clear hx13); (try clear p11); (try clear p13); (try clear p2); (try clear p6); (try clear q11); (try clear q13); obtain ⟨kq, x30_8, rfl, HA, HJ8, ⟨mc8, rfl⟩⟩ := hcut
        cases kq with
        | zero => exact absurd HA.out (by simp [batonref02_Id.j2])
        | succ kj8 =>
         have H := HA.out; clear HA; simp only [batonref02_Id.j2] at H
         by_cases c14 : x30_8 = true
         ·subst c14
          (have H1 : (if 0 ≤ x7_2 then (if x7_2 < (a1.size : Int) then (batonref02_Id.l0 kj8 a1 (wrap64 ((wrap64 (16 * x6_2)) + (((bt a1 x7_2) - 48) % 256))) (wrap64 (x7_2 + 1))) else (none)) else (none)) = some (r1, r2) := by rw [if_pos rfl] at H; exact H); clear H; have H := H1; clear H1
          by_cases c15 : 0 ≤ x7_2
          ·rw [if_pos c15] at H
           have c15b0 := decide_eq_true c15; clear c15
           by_cases c16 : x7_2 < (a1.size : Int)
           ·rw [if_pos c16] at H
            have c16b0 := decide_eq_true c16; clear c16; have H' := Aside0.mk H; clear H; have p17 : 0 ≤ (x7_2 : Int) := of_decide_eq_true My.as; have q17 : x7_2 < (a1.size : Int) := of_decide_eq_true My.as; have hx17 := bt_at a1 x7_2; replace p17 := eq_true p17; replace q17 := eq_true q17
            go_wp2
            go_roundg kj8
            case measure => have := HJ2.out; have := HK2.out; have := HJ8.out; omega
            case rel => exact ⟨(wrap64 ((wrap64 (16 * x6_2)) + (((bt a1 x7_2) - 48) % 256))), (wrap64 (x7_2 + 1)), My.q0, My.q0, H', ⟨by have := HJ2.out; have := HK2.out; have := HJ8.out; omega⟩, My.dD⟩
           ·exact My.no c16 H
          ·exact My.no c15 H
         ·replace c14 := Bool.eq_false_iff.mpr c14
          subst c14; (have H1 : (if 0 ≤ x7_2 then (if x7_2 < (a1.size : Int) then (if (bt a1 x7_2) ≥ 97 then (if (bt a1 x7_2) ≤ 102 then (batonref02_Id.l0 kj8 a1 (wrap64 ((wrap64 ((wrap64 (16 * x6_2)) + (((bt a1 x7_2) - 97) % 256))) + 10)) (wrap64 (x7_2 + 1))) else (some (0, false))) else (some (0, false))) else (none)) else (none)) = some (r1, r2) := by rw [if_neg (show ¬ (false = true) by decide)] at H; exact H); clear H; have H := H1; clear H1
          by_cases c18 : 0 ≤ x7_2
          ·rw [if_pos c18] at H
           have c18b0 := decide_eq_true c18; clear c18
           by_cases c19 : x7_2 < (a1.size : Int)
           ·rw [if_pos c19] at H
            have c19b0 := decide_eq_true c19; clear c19
            by_cases c21 : (bt a1 x7_2) ≥ 97
            ·rw [if_pos c21] at H
             have c21b0 := decide_eq_true c21; clear c21
             by_cases c23 : (bt a1 x7_2) ≤ 102
             ·rw [if_pos c23] at H
              have c23b0 := decide_eq_true c23; clear c23; have H' := Aside0.mk H; clear H; have p20 : 0 ≤ (x7_2 : Int) := of_decide_eq_true My.as; have q20 : x7_2 < (a1.size : Int) := of_decide_eq_true My.as; have hx20 := bt_at a1 x7_2; replace p20 := eq_true p20; replace q20 := eq_true q20; have p22 : 0 ≤ (x7_2 : Int) := of_decide_eq_true My.as; have q22 : x7_2 < (a1.size : Int) := of_decide_eq_true My.as; have hx22 := bt_at a1 x7_2; replace p22 := eq_true p22; replace q22 := eq_true q22; have p24 : 0 ≤ (x7_2 : Int) := of_decide_eq_true My.as; have q24 : x7_2 < (a1.size : Int) := of_decide_eq_true My.as; have hx24 := bt_at a1 x7_2; replace p24 := eq_true p24; replace q24 := eq_true q24
              go_wp2
              go_roundg kj8
              case measure => have := HJ2.out; have := HK2.out; have := HJ8.out; omega
              case rel => exact ⟨(wrap64 ((wrap64 ((wrap64 (16 * x6_2)) + (((bt a1 x7_2) - 97) % 256))) + 10)), (wrap64 (x7_2 + 1)), My.q0, My.q0, H', ⟨by have := HJ2.out; have := HK2.out; have := HJ8.out; omega⟩, My.dD⟩
             ·rw [if_neg c23] at H
              have c23b0 := decide_eq_false c23; clear c23; simp only [Option.some.injEq, Prod.mk.injEq] at H; obtain ⟨rfl, rfl⟩ := H; have p20 : 0 ≤ (x7_2 : Int) := of_decide_eq_true My.as; have q20 : x7_2 < (a1.size : Int) := of_decide_eq_true My.as; have hx20 := bt_at a1 x7_2; replace p20 := eq_true p20; replace q20 := eq_true q20; have p22 : 0 ≤ (x7_2 : Int) := of_decide_eq_true My.as; have q22 : x7_2 < (a1.size : Int) := of_decide_eq_true My.as; have hx22 := bt_at a1 x7_2; replace p22 := eq_true p22; replace q22 := eq_true q22
              go_wp2
              go_ret2
              exact ⟨My.q0, My.dD⟩
            ·rw [if_neg c21] at H
             have c21b0 := decide_eq_false c21; clear c21; simp only [Option.some.injEq, Prod.mk.injEq] at H; obtain ⟨rfl, rfl⟩ := H; have p20 : 0 ≤ (x7_2 : Int) := of_decide_eq_true My.as; have q20 : x7_2 < (a1.size : Int) := of_decide_eq_true My.as; have hx20 := bt_at a1 x7_2; replace p20 := eq_true p20; replace q20 := eq_true q20
             go_wp2
             go_ret2
             exact ⟨My.q0, My.dD⟩
           ·exact My.no c19 H
          ·exact My.no c18 H
      ·rw [if_neg c8] at H
       have c8b0 := decide_eq_false c8; clear c8; simp only [Option.some.injEq, Prod.mk.injEq] at H; obtain ⟨rfl, rfl⟩ := H
       go_wp2
       go_ret2
       exact ⟨My.q0, My.dD⟩

/-! ### batonref02_Under: function 23 -/
def batonref02_Under.f (a0 : ByteArray) (a1 : ByteArray) : Option (Bool) := if (a1.size : Int) > (a0.size : Int) then (if 0 ≤ (a0.size : Int) then (if (a0.size : Int) ≤ (a1.size : Int) then (some ((a1.extract 0 ((a0.size : Int) : Int).toNat).toList == a0.toList)) else (none)) else (none)) else (some false)
set_option maxHeartbeats 8000000 in
set_option maxRecDepth 100000 in
theorem batonref02_Under.calls (a0 : ByteArray) (a1 : ByteArray) (r : Bool) (w : World) (h : batonref02_Under.f a0 a1 = some r) :
    Calls Try.prog 23 #[.string a0, .string a1] w fun e w' => e = .returned (.bool r) ∧ Drawn0 w w' := by
  have H : (if (a1.size : Int) > (a0.size : Int) then (if 0 ≤ (a0.size : Int) then (if (a0.size : Int) ≤ (a1.size : Int) then (some ((a1.extract 0 ((a0.size : Int) : Int).toNat).toList == a0.toList)) else (none)) else (none)) else (some false)) = some r := h; clear h
  by_cases c3 : (a1.size : Int) > (a0.size : Int)
  · rw [if_pos c3] at H
    have c3b0 := decide_eq_true c3; have c3b1 : decide (a0.size < a1.size) = true := decide_eq_true (Int.ofNat_lt.mp c3); clear c3
    by_cases c4 : 0 ≤ (a0.size : Int)
    · rw [if_pos c4] at H
      have c4b0 := eq_true c4; have c4b1 : decide (0 ≤ (a0.size : Int)) = true := decide_eq_true c4; clear c4
      by_cases c5 : (a0.size : Int) ≤ (a1.size : Int)
      · rw [if_pos c5] at H
        have c5b0 := eq_true c5; have c5b1 : decide ((a0.size : Int) ≤ (a1.size : Int)) = true := decide_eq_true c5; clear c5; obtain rfl := Option.some.inj H
        go_enter Try.func23, Try.ntmps23
        go_wp2
        go_ret
        exact ⟨My.q0, My.dD⟩
      · exact My.no c5 H
    · exact My.no c4 H
  · rw [if_neg c3] at H
    have c3b0 := decide_eq_false c3; have c3b1 : decide (a0.size < a1.size) = false := decide_eq_false (fun h => c3 (Int.ofNat_lt.mpr h)); clear c3; obtain rfl := Option.some.inj H
    go_enter Try.func23, Try.ntmps23
    go_wp2
    go_ret
    exact ⟨My.q0, My.dD⟩

/-! ### batonlaw02_KeyReads: function 4 -/
def batonlaw02_KeyReads.j0 : Nat → ByteArray → ByteArray → Bool → Option (Bool)
  | 0, _, _, _ => none
  | k + 1, x0, x1, x16 => if x16 = true then ((batonlaw02_live.f).bind fun t160 => (some t160)) else ((key_Id.f x0 x1).bind fun bt161 => ((batonref02_Id.f k x0 x1).bind fun bt163 => (if bt161.1 = bt163.1 then (if (bt161.2 == bt163.2) = true then ((key_Under.f x0 x1).bind fun t165 => ((batonref02_Under.f x0 x1).bind fun t166 => (if (t165 == t166) = true then ((batonlaw02_live.f).bind fun t167 => (some t167)) else (none)))) else (none)) else (none))))
def batonlaw02_KeyReads.f (k : Nat) (a0 : ByteArray) (a1 : ByteArray) : Option (Bool) := if (a0.size : Int) > 100 then (batonlaw02_KeyReads.j0 k a0 a1 true) else (batonlaw02_KeyReads.j0 k a0 a1 (decide ((a1.size : Int) > 100)))
theorem batonlaw02_KeyReads.mono_l : ∀ k, (∀ y0 y1 y2, LeO (batonlaw02_KeyReads.j0 k y0 y1 y2) (batonlaw02_KeyReads.j0 (k + 1) y0 y1 y2))
  | 0 => fun _ _ _ r h => by simp [batonlaw02_KeyReads.j0] at h
  | k + 1 => by
    have ih0 := batonlaw02_KeyReads.mono_l k
    · intro y0 y1 y2
      unfold batonlaw02_KeyReads.j0
      have ic0 := @batonref02_Id.mono; exact My.mono_
theorem batonlaw02_KeyReads.mono : ∀ a0 a1 k, LeO (batonlaw02_KeyReads.f k a0 a1) (batonlaw02_KeyReads.f (k + 1) a0 a1) := by
  intro a0 a1 k
  have ih0 := batonlaw02_KeyReads.mono_l k
  unfold batonlaw02_KeyReads.f
  have ic0 := @batonref02_Id.mono; exact My.mono_
set_option maxHeartbeats 8000000 in
set_option maxRecDepth 100000 in
theorem batonlaw02_KeyReads.calls (k : Nat) (a0 : ByteArray) (a1 : ByteArray) (r : Bool) (w : World) (h : batonlaw02_KeyReads.f k a0 a1 = some r) :
    Calls Try.prog 4 #[.string a0, .string a1] w fun e w' => e = .returned (.bool r) ∧ Below w.heap.size w w' := by
  have HB := Aside0.mk (Below.refl w.heap.size w); have H : (if (a0.size : Int) > 100 then (batonlaw02_KeyReads.j0 k a0 a1 true) else (batonlaw02_KeyReads.j0 k a0 a1 (decide ((a1.size : Int) > 100)))) = some r := h; clear h; have HC3 := Aside0.mk H; clear H
  go_enter Try.func4, Try.ntmps4
  go_upto_region 1 with (fail)
  go_cut [16] (fun v16 wc => ∃ (kq : Nat) (x16_2 : Bool), v16 = .bool x16_2 ∧ Aside0 (batonlaw02_KeyReads.j0 kq a0 a1 x16_2 = some r) ∧ Aside0 (kq ≤ k) ∧ Aside0 (Below w.heap.size w wc))
  case first =>
    have H := HC3.out; clear HC3
    by_cases c4 : (a0.size : Int) > 100
    · rw [if_pos c4] at H
      have c4b0 := decide_eq_true c4; have c4b1 : decide (100 < a0.size) = true := decide_eq_true (by omega); clear c4; (first | rw [c4b0] | (simp only [i64_w, i32_w]; rw [c4b0]) | skip); have H' := Aside0.mk H; clear H
      go_wp2
      go_meet
      case rel => exact ⟨_, (true), My.q0, H', ⟨by first | omega | exact Nat.le_refl _⟩, ⟨My.bB⟩⟩
    · rw [if_neg c4] at H
      have c4b0 := decide_eq_false c4; have c4b1 : decide (100 < a0.size) = false := decide_eq_false (by omega); clear c4; (first | rw [c4b0] | (simp only [i64_w, i32_w]; rw [c4b0]) | skip); have H' := Aside0.mk H; clear H
      go_wp2
      go_meet
      case rel => exact ⟨_, (decide ((a1.size : Int) > 100)), My.q0, H', ⟨by first | omega | exact Nat.le_refl _⟩, ⟨My.bB⟩⟩
  case rest =>
    clear HC3; (try clear p2); (try clear c4); (try clear c4b0); (try clear c4b1); obtain ⟨kq, x16_2, rfl, HA, HJ2, HB⟩ := hcut
    cases kq with
    | zero => exact absurd HA.out (by simp [batonlaw02_KeyReads.j0])
    | succ kj2 =>
      have H := HA.out; clear HA; simp only [batonlaw02_KeyReads.j0] at H
      by_cases c5 : x16_2 = true
      · subst c5
        (have H1 : ((batonlaw02_live.f).bind fun t160 => (some t160)) = some r := by rw [if_pos rfl] at H; exact H); clear H; have H := H1; clear H1; replace H := Option.bind_eq_some_iff.mp H; obtain ⟨t160, A60, H⟩ := H; replace H : (some t160) = some r := H; have A6 := Aside0.mk A60; clear A60; obtain rfl := Option.some.inj H
        go_wp2_with (first | ((with_reducible refine gate_callee (f := 9) rfl ?_); refine goesL_ (some 17) rfl rfl Try.func9 (by kernel_rfl) rfl #[] rfl My.ar ?_; (with_reducible refine (batonlaw02_live.calls  t160 _ A6.out).mono ?_); rintro e w7 ⟨rfl, hb⟩; refine ⟨_, rfl, ?_⟩; have n0_ := Aside0.mk (below_step My.bB hb); clear HB; have HB := n0_; clear n0_; (try clear hb); (try clear hb2); (try clear hk); (try clear hi)))
        go_ret
        exact ⟨My.q1, My.bB⟩
      · replace c5 := Bool.eq_false_iff.mpr c5
        subst c5; (have H1 : ((key_Id.f a0 a1).bind fun bt161 => ((batonref02_Id.f kj2 a0 a1).bind fun bt163 => (if bt161.1 = bt163.1 then (if (bt161.2 == bt163.2) = true then ((key_Under.f a0 a1).bind fun t165 => ((batonref02_Under.f a0 a1).bind fun t166 => (if (t165 == t166) = true then ((batonlaw02_live.f).bind fun t167 => (some t167)) else (none)))) else (none)) else (none)))) = some r := by rw [if_neg (show ¬ (false = true) by decide)] at H; exact H); clear H; have H := H1; clear H1; replace H := Option.bind_eq_some_iff.mp H; obtain ⟨⟨t161, t162⟩, A80, H⟩ := H; replace H : ((batonref02_Id.f kj2 a0 a1).bind fun bt163 => (if t161 = bt163.1 then (if (t162 == bt163.2) = true then ((key_Under.f a0 a1).bind fun t165 => ((batonref02_Under.f a0 a1).bind fun t166 => (if (t165 == t166) = true then ((batonlaw02_live.f).bind fun t167 => (some t167)) else (none)))) else (none)) else (none))) = some r := H; have A8 := Aside0.mk A80; clear A80; replace H := Option.bind_eq_some_iff.mp H; obtain ⟨⟨t163, t164⟩, A90, H⟩ := H; replace H : (if t161 = t163 then (if (t162 == t164) = true then ((key_Under.f a0 a1).bind fun t165 => ((batonref02_Under.f a0 a1).bind fun t166 => (if (t165 == t166) = true then ((batonlaw02_live.f).bind fun t167 => (some t167)) else (none)))) else (none)) else (none)) = some r := H; have A9 := Aside0.mk A90; clear A90
        by_cases c10 : t161 = t163
        · rw [if_pos c10] at H
          have c10b0 : (t161 == t163) = true := beq_iff_eq.mpr c10; have c10b1 : (t161 != t163) = false := bne_eq_false_iff_eq.mpr c10; clear c10
          by_cases c11 : (t162 == t164) = true
          · rw [if_pos c11] at H
            have c11b0 : (t162 == t164) = true := c11; (try (have c11b1 : decide (t162 = t164) = true := by simpa using c11)); (try (have c11b2 : (t162 == t164) = true := by simpa using c11)); clear c11; replace H := Option.bind_eq_some_iff.mp H; obtain ⟨t165, A120, H⟩ := H; replace H : ((batonref02_Under.f a0 a1).bind fun t166 => (if (t165 == t166) = true then ((batonlaw02_live.f).bind fun t167 => (some t167)) else (none))) = some r := H; have A12 := Aside0.mk A120; clear A120; replace H := Option.bind_eq_some_iff.mp H; obtain ⟨t166, A130, H⟩ := H; replace H : (if (t165 == t166) = true then ((batonlaw02_live.f).bind fun t167 => (some t167)) else (none)) = some r := H; have A13 := Aside0.mk A130; clear A130
            by_cases c14 : (t165 == t166) = true
            · rw [if_pos c14] at H
              have c14b0 : (t165 == t166) = true := c14; (try (have c14b1 : decide (t165 = t166) = true := by simpa using c14)); (try (have c14b2 : (t165 == t166) = true := by simpa using c14)); clear c14; replace H := Option.bind_eq_some_iff.mp H; obtain ⟨t167, A150, H⟩ := H; replace H : (some t167) = some r := H; have A15 := Aside0.mk A150; clear A150; obtain rfl := Option.some.inj H
              go_wp2_with (first | ((with_reducible refine gate_callee (f := 20) rfl ?_); refine goesL_ (some 21) rfl rfl Try.func20 (by kernel_rfl) rfl #[.string a0, .string a1] rfl My.ar ?_; (with_reducible refine (key_Id.calls a0 a1 t161 t162 _ A8.out).mono ?_); rintro e w16 ⟨rfl, hb⟩; refine ⟨_, rfl, ?_⟩; have n0_ := Aside0.mk (below_step My.bB hb); clear HB; have HB := n0_; clear n0_; (try clear hb); (try clear hb2); (try clear hk); (try clear hi)) | ((with_reducible refine gate_callee (f := 21) rfl ?_); refine goesL_ (some 27) rfl rfl Try.func21 (by kernel_rfl) rfl #[.string a0, .string a1] rfl My.ar ?_; (with_reducible refine (batonref02_Id.calls kj2 a0 a1 t163 t164 _ A9.out).mono ?_); rintro e w' ⟨rfl, ⟨nd, rfl⟩⟩; refine ⟨_, rfl, ?_⟩) | (go_at_call 22; (with_reducible refine (key_Under.calls a0 a1 t165 _ A12.out).mono ?_); rintro e w' ⟨rfl, ⟨nd, rfl⟩⟩) | (go_at_call 23; (with_reducible refine (batonref02_Under.calls a0 a1 t166 _ A13.out).mono ?_); rintro e w' ⟨rfl, ⟨nd, rfl⟩⟩) | (go_at_call 9; (with_reducible refine (batonlaw02_live.calls  t167 _ A15.out).mono ?_); rintro e w17 ⟨rfl, hb⟩; have n0_ := Aside0.mk (below_step My.bB hb); clear HB; have HB := n0_; clear n0_; (try clear hb); (try clear hb2); (try clear hk); (try clear hi)))
              go_ret
              exact ⟨My.q1, My.bB⟩
            · exact My.no c14 H
          · exact My.no c11 H
        · exact My.no c10 H

/-! ### batonlaw02_KeyBack: function 5 -/
def batonlaw02_KeyBack.f (a0 : Int) (a1 : ByteArray) (a2 : Int) : Option (Bool) := if (a1.size : Int) > 100 then ((batonlaw02_live.f).bind fun t168 => (some t168)) else ((key_Ticket.f a0 a1 a2).bind fun bt169 => ((key_Prefix.f a0 a1).bind fun bt171 => (if bt169.2 = true then ((key_Id.f bt171.1 bt169.1).bind fun bt176 => (if bt171.2 = true then (if bt176.2 = true then (if bt176.1 = a2 then ((key_Check.f bt169.1).bind fun t178 => (if t178 = true then ((key_Under.f bt171.1 bt169.1).bind fun t179 => (if t179 = true then ((key_Name.f a1).bind fun t180 => (if t180 = true then (if a0 ≥ 1 then (if a0 ≤ 8 then ((batonlaw02_live.f).bind fun t181 => (some t181)) else (none)) else (none)) else (none))) else (none))) else (none))) else (none)) else (none)) else (none))) else (if bt169.1.toList = ([] : List UInt8) then (if bt171.2 = true then (if a2 < 0 then ((batonlaw02_live.f).bind fun t173 => (some t173)) else (if a2 > 1099511627775 then ((batonlaw02_live.f).bind fun t174 => (some t174)) else (none))) else ((batonlaw02_live.f).bind fun t175 => (some t175))) else (none)))))
set_option maxHeartbeats 8000000 in
set_option maxRecDepth 100000 in
theorem batonlaw02_KeyBack.calls (a0 : Int) (a1 : ByteArray) (a2 : Int) (r : Bool) (w : World) (h : batonlaw02_KeyBack.f a0 a1 a2 = some r) :
  Calls Try.prog 5 #[.int .i64 a0, .string a1, .int .i64 a2] w fun e w' => e = .returned (.bool r) ∧ Below w.heap.size w w' := by
 have HB := Aside0.mk (Below.refl w.heap.size w); have H : (if (a1.size : Int) > 100 then ((batonlaw02_live.f).bind fun t168 => (some t168)) else ((key_Ticket.f a0 a1 a2).bind fun bt169 => ((key_Prefix.f a0 a1).bind fun bt171 => (if bt169.2 = true then ((key_Id.f bt171.1 bt169.1).bind fun bt176 => (if bt171.2 = true then (if bt176.2 = true then (if bt176.1 = a2 then ((key_Check.f bt169.1).bind fun t178 => (if t178 = true then ((key_Under.f bt171.1 bt169.1).bind fun t179 => (if t179 = true then ((key_Name.f a1).bind fun t180 => (if t180 = true then (if a0 ≥ 1 then (if a0 ≤ 8 then ((batonlaw02_live.f).bind fun t181 => (some t181)) else (none)) else (none)) else (none))) else (none))) else (none))) else (none)) else (none)) else (none))) else (if bt169.1.toList = ([] : List UInt8) then (if bt171.2 = true then (if a2 < 0 then ((batonlaw02_live.f).bind fun t173 => (some t173)) else (if a2 > 1099511627775 then ((batonlaw02_live.f).bind fun t174 => (some t174)) else (none))) else ((batonlaw02_live.f).bind fun t175 => (some t175))) else (none)))))) = some r := h; clear h
 by_cases c4 : (a1.size : Int) > 100
 ·rw [if_pos c4] at H
  have c4b0 := decide_eq_true c4; have c4b1 : decide (100 < a1.size) = true := decide_eq_true (by omega); clear c4; replace H := Option.bind_eq_some_iff.mp H; obtain ⟨t168, A50, H⟩ := H; replace H : (some t168) = some r := H; have A5 := Aside0.mk A50; clear A50; obtain rfl := Option.some.inj H
  go_enter Try.func5, Try.ntmps5
  go_wp2_with (first | ((with_reducible refine gate_callee (f := 9) rfl ?_); refine goesL_ (some 16) rfl rfl Try.func9 (by kernel_rfl) rfl #[] rfl My.ar ?_; (with_reducible refine (batonlaw02_live.calls  t168 _ A5.out).mono ?_); rintro e w6 ⟨rfl, hb⟩; refine ⟨_, rfl, ?_⟩; have n0_ := Aside0.mk (below_step My.bB hb); clear HB; have HB := n0_; clear n0_))
  go_ret
  exact ⟨My.q1, My.bB⟩
 ·rw [if_neg c4] at H
  have c4b0 := decide_eq_false c4; have c4b1 : decide (100 < a1.size) = false := decide_eq_false (by omega); clear c4; replace H := Option.bind_eq_some_iff.mp H; obtain ⟨⟨t169, t170⟩, A70, H⟩ := H; replace H : ((key_Prefix.f a0 a1).bind fun bt171 => (if t170 = true then ((key_Id.f bt171.1 t169).bind fun bt176 => (if bt171.2 = true then (if bt176.2 = true then (if bt176.1 = a2 then ((key_Check.f t169).bind fun t178 => (if t178 = true then ((key_Under.f bt171.1 t169).bind fun t179 => (if t179 = true then ((key_Name.f a1).bind fun t180 => (if t180 = true then (if a0 ≥ 1 then (if a0 ≤ 8 then ((batonlaw02_live.f).bind fun t181 => (some t181)) else (none)) else (none)) else (none))) else (none))) else (none))) else (none)) else (none)) else (none))) else (if t169.toList = ([] : List UInt8) then (if bt171.2 = true then (if a2 < 0 then ((batonlaw02_live.f).bind fun t173 => (some t173)) else (if a2 > 1099511627775 then ((batonlaw02_live.f).bind fun t174 => (some t174)) else (none))) else ((batonlaw02_live.f).bind fun t175 => (some t175))) else (none)))) = some r := H; have A7 := Aside0.mk A70; clear A70; replace H := Option.bind_eq_some_iff.mp H; obtain ⟨⟨t171, t172⟩, A80, H⟩ := H; replace H : (if t170 = true then ((key_Id.f t171 t169).bind fun bt176 => (if t172 = true then (if bt176.2 = true then (if bt176.1 = a2 then ((key_Check.f t169).bind fun t178 => (if t178 = true then ((key_Under.f t171 t169).bind fun t179 => (if t179 = true then ((key_Name.f a1).bind fun t180 => (if t180 = true then (if a0 ≥ 1 then (if a0 ≤ 8 then ((batonlaw02_live.f).bind fun t181 => (some t181)) else (none)) else (none)) else (none))) else (none))) else (none))) else (none)) else (none)) else (none))) else (if t169.toList = ([] : List UInt8) then (if t172 = true then (if a2 < 0 then ((batonlaw02_live.f).bind fun t173 => (some t173)) else (if a2 > 1099511627775 then ((batonlaw02_live.f).bind fun t174 => (some t174)) else (none))) else ((batonlaw02_live.f).bind fun t175 => (some t175))) else (none))) = some r := H; have A8 := Aside0.mk A80; clear A80
  by_cases c9 : t170 = true
  ·subst c9
   (have H1 : ((key_Id.f t171 t169).bind fun bt176 => (if t172 = true then (if bt176.2 = true then (if bt176.1 = a2 then ((key_Check.f t169).bind fun t178 => (if t178 = true then ((key_Under.f t171 t169).bind fun t179 => (if t179 = true then ((key_Name.f a1).bind fun t180 => (if t180 = true then (if a0 ≥ 1 then (if a0 ≤ 8 then ((batonlaw02_live.f).bind fun t181 => (some t181)) else (none)) else (none)) else (none))) else (none))) else (none))) else (none)) else (none)) else (none))) = some r := by rw [if_pos rfl] at H; exact H); clear H; have H := H1; clear H1; replace H := Option.bind_eq_some_iff.mp H; obtain ⟨⟨t176, t177⟩, A100, H⟩ := H; replace H : (if t172 = true then (if t177 = true then (if t176 = a2 then ((key_Check.f t169).bind fun t178 => (if t178 = true then ((key_Under.f t171 t169).bind fun t179 => (if t179 = true then ((key_Name.f a1).bind fun t180 => (if t180 = true then (if a0 ≥ 1 then (if a0 ≤ 8 then ((batonlaw02_live.f).bind fun t181 => (some t181)) else (none)) else (none)) else (none))) else (none))) else (none))) else (none)) else (none)) else (none)) = some r := H; have A10 := Aside0.mk A100; clear A100
   by_cases c11 : t172 = true
   ·subst c11
    (have H1 : (if t177 = true then (if t176 = a2 then ((key_Check.f t169).bind fun t178 => (if t178 = true then ((key_Under.f t171 t169).bind fun t179 => (if t179 = true then ((key_Name.f a1).bind fun t180 => (if t180 = true then (if a0 ≥ 1 then (if a0 ≤ 8 then ((batonlaw02_live.f).bind fun t181 => (some t181)) else (none)) else (none)) else (none))) else (none))) else (none))) else (none)) else (none)) = some r := by rw [if_pos rfl] at H; exact H); clear H; have H := H1; clear H1
    by_cases c12 : t177 = true
    ·subst c12
     (have H1 : (if t176 = a2 then ((key_Check.f t169).bind fun t178 => (if t178 = true then ((key_Under.f t171 t169).bind fun t179 => (if t179 = true then ((key_Name.f a1).bind fun t180 => (if t180 = true then (if a0 ≥ 1 then (if a0 ≤ 8 then ((batonlaw02_live.f).bind fun t181 => (some t181)) else (none)) else (none)) else (none))) else (none))) else (none))) else (none)) = some r := by rw [if_pos rfl] at H; exact H); clear H; have H := H1; clear H1
     by_cases c13 : t176 = a2
     ·rw [if_pos c13] at H
      have c13b0 : (t176 == a2) = true := beq_iff_eq.mpr c13; have c13b1 : (t176 != a2) = false := bne_eq_false_iff_eq.mpr c13; clear c13; replace H := Option.bind_eq_some_iff.mp H; obtain ⟨t178, A140, H⟩ := H; replace H : (if t178 = true then ((key_Under.f t171 t169).bind fun t179 => (if t179 = true then ((key_Name.f a1).bind fun t180 => (if t180 = true then (if a0 ≥ 1 then (if a0 ≤ 8 then ((batonlaw02_live.f).bind fun t181 => (some t181)) else (none)) else (none)) else (none))) else (none))) else (none)) = some r := H; have A14 := Aside0.mk A140; clear A140
      by_cases c15 : t178 = true
      ·subst c15
       (have H1 : ((key_Under.f t171 t169).bind fun t179 => (if t179 = true then ((key_Name.f a1).bind fun t180 => (if t180 = true then (if a0 ≥ 1 then (if a0 ≤ 8 then ((batonlaw02_live.f).bind fun t181 => (some t181)) else (none)) else (none)) else (none))) else (none))) = some r := by rw [if_pos rfl] at H; exact H); clear H; have H := H1; clear H1; replace H := Option.bind_eq_some_iff.mp H; obtain ⟨t179, A160, H⟩ := H; replace H : (if t179 = true then ((key_Name.f a1).bind fun t180 => (if t180 = true then (if a0 ≥ 1 then (if a0 ≤ 8 then ((batonlaw02_live.f).bind fun t181 => (some t181)) else (none)) else (none)) else (none))) else (none)) = some r := H; have A16 := Aside0.mk A160; clear A160
       by_cases c17 : t179 = true
       ·subst c17
        (have H1 : ((key_Name.f a1).bind fun t180 => (if t180 = true then (if a0 ≥ 1 then (if a0 ≤ 8 then ((batonlaw02_live.f).bind fun t181 => (some t181)) else (none)) else (none)) else (none))) = some r := by rw [if_pos rfl] at H; exact H); clear H; have H := H1; clear H1; replace H := Option.bind_eq_some_iff.mp H; obtain ⟨t180, A180, H⟩ := H; replace H : (if t180 = true then (if a0 ≥ 1 then (if a0 ≤ 8 then ((batonlaw02_live.f).bind fun t181 => (some t181)) else (none)) else (none)) else (none)) = some r := H; have A18 := Aside0.mk A180; clear A180
        by_cases c19 : t180 = true
        ·subst c19
         (have H1 : (if a0 ≥ 1 then (if a0 ≤ 8 then ((batonlaw02_live.f).bind fun t181 => (some t181)) else (none)) else (none)) = some r := by rw [if_pos rfl] at H; exact H); clear H; have H := H1; clear H1
         by_cases c20 : a0 ≥ 1
         ·rw [if_pos c20] at H
          have c20b0 := decide_eq_true c20; clear c20
          by_cases c21 : a0 ≤ 8
          ·rw [if_pos c21] at H
           have c21b0 := decide_eq_true c21; clear c21; replace H := Option.bind_eq_some_iff.mp H; obtain ⟨t181, A220, H⟩ := H; replace H : (some t181) = some r := H; have A22 := Aside0.mk A220; clear A220; obtain rfl := Option.some.inj H
           go_enter Try.func5, Try.ntmps5
           go_wp2_with (first | ((with_reducible refine gate_callee (f := 12) rfl ?_); refine goesL_ (some 21) rfl rfl Try.func12 (by kernel_rfl) rfl #[.int .i64 a0, .string a1, .int .i64 a2] rfl My.ar ?_; (with_reducible refine (key_Ticket.calls a0 a1 a2 t169 true _ A7.out).mono ?_); rintro e w23 ⟨rfl, hb⟩; refine ⟨_, rfl, ?_⟩; have n0_ := Aside0.mk (below_step My.bB hb); clear HB; have HB := n0_; clear n0_) | ((with_reducible refine gate_callee (f := 10) rfl ?_); refine goesL_ (some 27) rfl rfl Try.func10 (by kernel_rfl) rfl #[.int .i64 a0, .string a1] rfl My.ar ?_; (with_reducible refine (key_Prefix.calls a0 a1 t171 true _ A8.out).mono ?_); rintro e w24 ⟨rfl, hb⟩; refine ⟨_, rfl, ?_⟩; have n0_ := Aside0.mk (below_step My.bB hb); clear HB; have HB := n0_; clear n0_) | ((with_reducible refine gate_callee (f := 20) rfl ?_); refine goesL_ (some 52) rfl rfl Try.func20 (by kernel_rfl) rfl #[.string t171, .string t169] rfl My.ar ?_; (with_reducible refine (key_Id.calls t171 t169 t176 true _ A10.out).mono ?_); rintro e w25 ⟨rfl, hb⟩; refine ⟨_, rfl, ?_⟩; have n0_ := Aside0.mk (below_step My.bB hb); clear HB; have HB := n0_; clear n0_) | (go_at_call 16; (with_reducible refine (key_Check.calls t169 true _ A14.out).mono ?_); rintro e w26 ⟨rfl, hb⟩; have n0_ := Aside0.mk (below_step My.bB hb); clear HB; have HB := n0_; clear n0_) | (go_at_call 22; (with_reducible refine (key_Under.calls t171 t169 true _ A16.out).mono ?_); rintro e w' ⟨rfl, ⟨nd, rfl⟩⟩) | (go_at_call 18; (with_reducible refine (key_Name.calls a1 true _ A18.out).mono ?_); rintro e w27 ⟨rfl, hb⟩; have n0_ := Aside0.mk (below_step My.bB hb); clear HB; have HB := n0_; clear n0_) | (go_at_call 9; (with_reducible refine (batonlaw02_live.calls  t181 _ A22.out).mono ?_); rintro e w28 ⟨rfl, hb⟩; have n0_ := Aside0.mk (below_step My.bB hb); clear HB; have HB := n0_; clear n0_))
           go_ret
           exact ⟨My.q1, My.bB⟩
          ·exact My.no c21 H
         ·exact My.no c20 H
        ·replace c19 := Bool.eq_false_iff.mpr c19
         subst c19; (have H1 : (none) = some r := by rw [if_neg (show ¬ (false = true) by decide)] at H; exact H); clear H; have H := H1; clear H1; exact absurd H (by simp)
       ·replace c17 := Bool.eq_false_iff.mpr c17
        subst c17; (have H1 : (none) = some r := by rw [if_neg (show ¬ (false = true) by decide)] at H; exact H); clear H; have H := H1; clear H1; exact absurd H (by simp)
      ·replace c15 := Bool.eq_false_iff.mpr c15
       subst c15; (have H1 : (none) = some r := by rw [if_neg (show ¬ (false = true) by decide)] at H; exact H); clear H; have H := H1; clear H1; exact absurd H (by simp)
     ·exact My.no c13 H
    ·replace c12 := Bool.eq_false_iff.mpr c12
     subst c12; (have H1 : (none) = some r := by rw [if_neg (show ¬ (false = true) by decide)] at H; exact H); clear H; have H := H1; clear H1; exact absurd H (by simp)
   ·replace c11 := Bool.eq_false_iff.mpr c11
    subst c11; (have H1 : (none) = some r := by rw [if_neg (show ¬ (false = true) by decide)] at H; exact H); clear H; have H := H1; clear H1; exact absurd H (by simp)
  ·replace c9 := Bool.eq_false_iff.mpr c9
   subst c9; (have H1 : (if t169.toList = ([] : List UInt8) then (if t172 = true then (if a2 < 0 then ((batonlaw02_live.f).bind fun t173 => (some t173)) else (if a2 > 1099511627775 then ((batonlaw02_live.f).bind fun t174 => (some t174)) else (none))) else ((batonlaw02_live.f).bind fun t175 => (some t175))) else (none)) = some r := by rw [if_neg (show ¬ (false = true) by decide)] at H; exact H); clear H; have H := H1; clear H1
   by_cases c29 : t169.toList = ([] : List UInt8)
   ·rw [if_pos c29] at H
    have c29b0 : (t169.toList == ([] : List UInt8)) = true := beq_iff_eq.mpr c29; have c29b1 : (t169.toList != ([] : List UInt8)) = false := bne_eq_false_iff_eq.mpr c29; clear c29
    by_cases c30 : t172 = true
    ·subst c30
     (have H1 : (if a2 < 0 then ((batonlaw02_live.f).bind fun t173 => (some t173)) else (if a2 > 1099511627775 then ((batonlaw02_live.f).bind fun t174 => (some t174)) else (none))) = some r := by rw [if_pos rfl] at H; exact H); clear H; have H := H1; clear H1
     by_cases c31 : a2 < 0
     ·rw [if_pos c31] at H
      have c31b0 := decide_eq_true c31; clear c31; replace H := Option.bind_eq_some_iff.mp H; obtain ⟨t173, A320, H⟩ := H; replace H : (some t173) = some r := H; have A32 := Aside0.mk A320; clear A320; obtain rfl := Option.some.inj H
      go_enter Try.func5, Try.ntmps5
      go_wp2_with (first | ((with_reducible refine gate_callee (f := 12) rfl ?_); refine goesL_ (some 21) rfl rfl Try.func12 (by kernel_rfl) rfl #[.int .i64 a0, .string a1, .int .i64 a2] rfl My.ar ?_; (with_reducible refine (key_Ticket.calls a0 a1 a2 t169 false _ A7.out).mono ?_); rintro e w33 ⟨rfl, hb⟩; refine ⟨_, rfl, ?_⟩; have n0_ := Aside0.mk (below_step My.bB hb); clear HB; have HB := n0_; clear n0_) | ((with_reducible refine gate_callee (f := 10) rfl ?_); refine goesL_ (some 27) rfl rfl Try.func10 (by kernel_rfl) rfl #[.int .i64 a0, .string a1] rfl My.ar ?_; (with_reducible refine (key_Prefix.calls a0 a1 t171 true _ A8.out).mono ?_); rintro e w34 ⟨rfl, hb⟩; refine ⟨_, rfl, ?_⟩; have n0_ := Aside0.mk (below_step My.bB hb); clear HB; have HB := n0_; clear n0_) | (go_at_call 9; (with_reducible refine (batonlaw02_live.calls  t173 _ A32.out).mono ?_); rintro e w35 ⟨rfl, hb⟩; have n0_ := Aside0.mk (below_step My.bB hb); clear HB; have HB := n0_; clear n0_))
      go_ret
      exact ⟨My.q1, My.bB⟩
     ·rw [if_neg c31] at H
      have c31b0 := decide_eq_false c31; clear c31
      by_cases c36 : a2 > 1099511627775
      ·rw [if_pos c36] at H
       have c36b0 := decide_eq_true c36; clear c36; replace H := Option.bind_eq_some_iff.mp H; obtain ⟨t174, A370, H⟩ := H; replace H : (some t174) = some r := H; have A37 := Aside0.mk A370; clear A370; obtain rfl := Option.some.inj H
       go_enter Try.func5, Try.ntmps5
       go_wp2_with (first | ((with_reducible refine gate_callee (f := 12) rfl ?_); refine goesL_ (some 21) rfl rfl Try.func12 (by kernel_rfl) rfl #[.int .i64 a0, .string a1, .int .i64 a2] rfl My.ar ?_; (with_reducible refine (key_Ticket.calls a0 a1 a2 t169 false _ A7.out).mono ?_); rintro e w38 ⟨rfl, hb⟩; refine ⟨_, rfl, ?_⟩; have n0_ := Aside0.mk (below_step My.bB hb); clear HB; have HB := n0_; clear n0_) | ((with_reducible refine gate_callee (f := 10) rfl ?_); refine goesL_ (some 27) rfl rfl Try.func10 (by kernel_rfl) rfl #[.int .i64 a0, .string a1] rfl My.ar ?_; (with_reducible refine (key_Prefix.calls a0 a1 t171 true _ A8.out).mono ?_); rintro e w39 ⟨rfl, hb⟩; refine ⟨_, rfl, ?_⟩; have n0_ := Aside0.mk (below_step My.bB hb); clear HB; have HB := n0_; clear n0_) | (go_at_call 9; (with_reducible refine (batonlaw02_live.calls  t174 _ A37.out).mono ?_); rintro e w40 ⟨rfl, hb⟩; have n0_ := Aside0.mk (below_step My.bB hb); clear HB; have HB := n0_; clear n0_))
       go_ret
       exact ⟨My.q1, My.bB⟩
      ·exact My.no c36 H
    ·replace c30 := Bool.eq_false_iff.mpr c30
     subst c30; (have H1 : ((batonlaw02_live.f).bind fun t175 => (some t175)) = some r := by rw [if_neg (show ¬ (false = true) by decide)] at H; exact H); clear H; have H := H1; clear H1; replace H := Option.bind_eq_some_iff.mp H; obtain ⟨t175, A410, H⟩ := H; replace H : (some t175) = some r := H; have A41 := Aside0.mk A410; clear A410; obtain rfl := Option.some.inj H
     go_enter Try.func5, Try.ntmps5
     go_wp2_with (first | ((with_reducible refine gate_callee (f := 12) rfl ?_); refine goesL_ (some 21) rfl rfl Try.func12 (by kernel_rfl) rfl #[.int .i64 a0, .string a1, .int .i64 a2] rfl My.ar ?_; (with_reducible refine (key_Ticket.calls a0 a1 a2 t169 false _ A7.out).mono ?_); rintro e w42 ⟨rfl, hb⟩; refine ⟨_, rfl, ?_⟩; have n0_ := Aside0.mk (below_step My.bB hb); clear HB; have HB := n0_; clear n0_) | ((with_reducible refine gate_callee (f := 10) rfl ?_); refine goesL_ (some 27) rfl rfl Try.func10 (by kernel_rfl) rfl #[.int .i64 a0, .string a1] rfl My.ar ?_; (with_reducible refine (key_Prefix.calls a0 a1 t171 false _ A8.out).mono ?_); rintro e w43 ⟨rfl, hb⟩; refine ⟨_, rfl, ?_⟩; have n0_ := Aside0.mk (below_step My.bB hb); clear HB; have HB := n0_; clear n0_) | (go_at_call 9; (with_reducible refine (batonlaw02_live.calls  t175 _ A41.out).mono ?_); rintro e w44 ⟨rfl, hb⟩; have n0_ := Aside0.mk (below_step My.bB hb); clear HB; have HB := n0_; clear n0_))
     go_ret
     exact ⟨My.q1, My.bB⟩
   ·exact My.no c29 H

end Go.Proofs.Ytfpkkjcefdighaa.PM
