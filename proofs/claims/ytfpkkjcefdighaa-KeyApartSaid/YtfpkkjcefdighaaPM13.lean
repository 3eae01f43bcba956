-- made by a program of this session (wip/tools/myprint.py over the kit's print) out of the translation; Lean checks it
import Derived.Test.YtfpkkjcefdighaaPM0
import Derived.Test.YtfpkkjcefdighaaPM3
import Derived.Test.YtfpkkjcefdighaaPM5
import Derived.Test.YtfpkkjcefdighaaPM6
import Derived.Test.YtfpkkjcefdighaaPM7
import Derived.Test.YtfpkkjcefdighaaPM9
import Derived.Test.YtfpkkjcefdighaaPM12
namespace Go.Proofs.Ytfpkkjcefdighaa.PM
open Go.RowKit Go.Proofs.YtfpkkjcefdighaaW.PrintWords Go.Proofs.YtfpkkjcefdighaaW.PrintLast Go.Proofs.YtfpkkjcefdighaaW.PrintMore
attribute [local go_sem] max2_int min2_int max_two min_two max_three min_three max_four min_four   -- for this text's walks alone
attribute [local go_sem high] Go.Proofs.Ytfpkkjcefdighaa.My.str_leq Go.Proofs.Ytfpkkjcefdighaa.My.str_gtr Go.Proofs.Ytfpkkjcefdighaa.My.str_geq
set_option linter.unusedVariables false
set_option linter.unusedSimpArgs false

/-! ### strings_HasPrefix: function 30 -/
def strings_HasPrefix.f (a0 : ByteArray) (a1 : ByteArray) : Option (Bool) := (stringslite_HasPrefix.f a0 a1).bind fun t111 => (some t111)
set_option maxHeartbeats 8000000 in
set_option maxRecDepth 100000 in
theorem strings_HasPrefix.calls (a0 : ByteArray) (a1 : ByteArray) (r : Bool) (w : World) (h : strings_HasPrefix.f a0 a1 = some r) :
    Calls Try.prog 30 #[.string a0, .string a1] w fun e w' => e = .returned (.bool r) ∧ Drawn0 w w' := by
  have H : ((stringslite_HasPrefix.f a0 a1).bind fun t111 => (some t111)) = some r := h; clear h; replace H := Option.bind_eq_some_iff.mp H; obtain ⟨t111, A30, H⟩ := H; replace H : (some t111) = some r := H; have A3 := Aside0.mk A30; clear A30; obtain rfl := Option.some.inj H
  go_enter Try.func30, Try.ntmps30
  go_wp2_with (first | ((with_reducible refine gate_callee (f := 33) rfl ?_); refine goesL_ (some 7) rfl rfl Try.func33 (by kernel_rfl) rfl #[.string a0, .string a1] rfl My.ar ?_; (with_reducible refine (stringslite_HasPrefix.calls a0 a1 t111 _ A3.out).mono ?_); rintro e w' ⟨rfl, ⟨nd, rfl⟩⟩; refine ⟨_, rfl, ?_⟩))
  go_ret
  exact ⟨My.q0, My.dD⟩

/-! ### key_Under: function 22 -/
def key_Under.f (a0 : ByteArray) (a1 : ByteArray) : Option (Bool) := (strings_HasPrefix.f a1 a0).bind fun t112 => (if t112 = true then (some (decide ((a1.size : Int) > (a0.size : Int)))) else (some false))
set_option maxHeartbeats 8000000 in
set_option maxRecDepth 100000 in
theorem key_Under.calls (a0 : ByteArray) (a1 : ByteArray) (r : Bool) (w : World) (h : key_Under.f a0 a1 = some r) :
    Calls Try.prog 22 #[.string a0, .string a1] w fun e w' => e = .returned (.bool r) ∧ Drawn0 w w' := by
  have H : ((strings_HasPrefix.f a1 a0).bind fun t112 => (if t112 = true then (some (decide ((a1.size : Int) > (a0.size : Int)))) else (some false))) = some r := h; clear h; replace H := Option.bind_eq_some_iff.mp H; obtain ⟨t112, A30, H⟩ := H; replace H : (if t112 = true then (some (decide ((a1.size : Int) > (a0.size : Int)))) else (some false)) = some r := H; have A3 := Aside0.mk A30; clear A30
  by_cases c4 : t112 = true
  · subst c4
    (have H1 : (some (decide ((a1.size : Int) > (a0.size : Int)))) = some r := by rw [if_pos rfl] at H; exact H); clear H; have H := H1; clear H1; obtain rfl := Option.some.inj H
    go_enter Try.func22, Try.ntmps22
    go_wp2_with (first | ((with_reducible refine gate_callee (f := 30) rfl ?_); refine goesL_ (some 7) rfl rfl Try.func30 (by kernel_rfl) rfl #[.string a1, .string a0] rfl My.ar ?_; (with_reducible refine (strings_HasPrefix.calls a1 a0 true _ A3.out).mono ?_); rintro e w' ⟨rfl, ⟨nd, rfl⟩⟩; refine ⟨_, rfl, ?_⟩))
    go_ret
    exact ⟨My.q0, My.dD⟩
  · replace c4 := Bool.eq_false_iff.mpr c4
    subst c4; (have H1 : (some false) = some r := by rw [if_neg (show ¬ (false = true) by decide)] at H; exact H); clear H; have H := H1; clear H1; obtain rfl := Option.some.inj H
    go_enter Try.func22, Try.ntmps22
    go_wp2_with (first | ((with_reducible refine gate_callee (f := 30) rfl ?_); refine goesL_ (some 7) rfl rfl Try.func30 (by kernel_rfl) rfl #[.string a1, .string a0] rfl My.ar ?_; (with_reducible refine (strings_HasPrefix.calls a1 a0 false _ A3.out).mono ?_); rintro e w' ⟨rfl, ⟨nd, rfl⟩⟩; refine ⟨_, rfl, ?_⟩))
    go_ret
    exact ⟨My.q0, My.dD⟩

/-! ### batonlaw02_live: function 9 -/
def batonlaw02_live.f  : Option (Bool) := (key_Ticket.f 1 (⟨#[97]⟩ : ByteArray) 255).bind fun bt113 => ((key_Ticket.f 1 (⟨#[65]⟩ : ByteArray) 255).bind fun bt115 => ((key_Prefix.f 3 (⟨#[120, 57]⟩ : ByteArray)).bind fun bt117 => ((key_Id.f (⟨#[109, 47, 97, 47]⟩ : ByteArray) bt113.1).bind fun bt119 => ((key_Id.f (⟨#[109, 47, 97]⟩ : ByteArray) bt113.1).bind fun bt121 => ((key_Flag.f (⟨#[122]⟩ : ByteArray)).bind fun bt123 => (if bt113.1.toList = ([109, 47, 97, 47, 48, 48, 48, 48, 48, 48, 48, 48, 102, 102] : List UInt8) then (if bt113.2 = true then (if bt115.2 = true then (none) else (if bt117.1.toList = ([108, 47, 120, 57, 47] : List UInt8) then (if bt117.2 = true then (if bt119.1 = 255 then (if bt119.2 = true then (if bt121.2 = true then (none) else (if bt123.1.toList = ([112, 47, 122, 47, 111, 112, 101, 110] : List UInt8) then (if bt123.2 = true then ((key_Check.f bt113.1).bind fun t125 => (if t125 = true then ((key_Check.f (⟨#[97, 32, 98]⟩ : ByteArray)).bind fun t126 => (if t126 = true then (none) else ((key_Name.f (⟨#[120, 57]⟩ : ByteArray)).bind fun t127 => (if t127 = true then ((key_Name.f (⟨#[]⟩ : ByteArray)).bind fun t128 => (if t128 = true then (none) else ((key_Under.f (⟨#[109, 47, 97, 47]⟩ : ByteArray) bt113.1).bind fun t129 => (if t129 = true then ((key_Under.f bt113.1 bt113.1).bind fun t130 => (some (!t130))) else (none))))) else (none))))) else (none))) else (none)) else (none))) else (none)) else (none)) else (none)) else (none))) else (none)) else (none)))))))
set_option maxHeartbeats 8000000 in
set_option maxRecDepth 100000 in
theorem batonlaw02_live.calls  (r : Bool) (w : World) (h : batonlaw02_live.f  = some r) :
  Calls Try.prog 9 #[] w fun e w' => e = .returned (.bool r) ∧ Below w.heap.size w w' := by
 have HB := Aside0.mk (Below.refl w.heap.size w); have H : ((key_Ticket.f 1 (⟨#[97]⟩ : ByteArray) 255).bind fun bt113 => ((key_Ticket.f 1 (⟨#[65]⟩ : ByteArray) 255).bind fun bt115 => ((key_Prefix.f 3 (⟨#[120, 57]⟩ : ByteArray)).bind fun bt117 => ((key_Id.f (⟨#[109, 47, 97, 47]⟩ : ByteArray) bt113.1).bind fun bt119 => ((key_Id.f (⟨#[109, 47, 97]⟩ : ByteArray) bt113.1).bind fun bt121 => ((key_Flag.f (⟨#[122]⟩ : ByteArray)).bind fun bt123 => (if bt113.1.toList = ([109, 47, 97, 47, 48, 48, 48, 48, 48, 48, 48, 48, 102, 102] : List UInt8) then (if bt113.2 = true then (if bt115.2 = true then (none) else (if bt117.1.toList = ([108, 47, 120, 57, 47] : List UInt8) then (if bt117.2 = true then (if bt119.1 = 255 then (if bt119.2 = true then (if bt121.2 = true then (none) else (if bt123.1.toList = ([112, 47, 122, 47, 111, 112, 101, 110] : List UInt8) then (if bt123.2 = true then ((key_Check.f bt113.1).bind fun t125 => (if t125 = true then ((key_Check.f (⟨#[97, 32, 98]⟩ : ByteArray)).bind fun t126 => (if t126 = true then (none) else ((key_Name.f (⟨#[120, 57]⟩ : ByteArray)).bind fun t127 => (if t127 = true then ((key_Name.f (⟨#[]⟩ : ByteArray)).bind fun t128 => (if t128 = true then (none) else ((key_Under.f (⟨#[109, 47, 97, 47]⟩ : ByteArray) bt113.1).bind fun t129 => (if t129 = true then ((key_Under.f bt113.1 bt113.1).bind fun t130 => (some (!t130))) else (none))))) else (none))))) else (none))) else (none)) else (none))) else (none)) else (none)) else (none)) else (none))) else (none)) else (none)))))))) = some r := h; clear h; replace H := Option.bind_eq_some_iff.mp H; obtain ⟨⟨t113, t114⟩, A10, H⟩ := H; replace H : ((key_Ticket.f 1 (⟨#[65]⟩ : ByteArray) 255).bind fun bt115 => ((key_Prefix.f 3 (⟨#[120, 57]⟩ : ByteArray)).bind fun bt117 => ((key_Id.f (⟨#[109, 47, 97, 47]⟩ : ByteArray) t113).bind fun bt119 => ((key_Id.f (⟨#[109, 47, 97]⟩ : ByteArray) t113).bind fun bt121 => ((key_Flag.f (⟨#[122]⟩ : ByteArray)).bind fun bt123 => (if t113.toList = ([109, 47, 97, 47, 48, 48, 48, 48, 48, 48, 48, 48, 102, 102] : List UInt8) then (if t114 = true then (if bt115.2 = true then (none) else (if bt117.1.toList = ([108, 47, 120, 57, 47] : List UInt8) then (if bt117.2 = true then (if bt119.1 = 255 then (if bt119.2 = true then (if bt121.2 = true then (none) else (if bt123.1.toList = ([112, 47, 122, 47, 111, 112, 101, 110] : List UInt8) then (if bt123.2 = true then ((key_Check.f t113).bind fun t125 => (if t125 = true then ((key_Check.f (⟨#[97, 32, 98]⟩ : ByteArray)).bind fun t126 => (if t126 = true then (none) else ((key_Name.f (⟨#[120, 57]⟩ : ByteArray)).bind fun t127 => (if t127 = true then ((key_Name.f (⟨#[]⟩ : ByteArray)).bind fun t128 => (if t128 = true then (none) else ((key_Under.f (⟨#[109, 47, 97, 47]⟩ : ByteArray) t113).bind fun t129 => (if t129 = true then ((key_Under.f t113 t113).bind fun t130 => (some (!t130))) else (none))))) else (none))))) else (none))) else (none)) else (none))) else (none)) else (none)) else (none)) else (none))) else (none)) else (none))))))) = some r := H; have A1 := Aside0.mk A10; clear A10; replace H := Option.bind_eq_some_iff.mp H; obtain ⟨⟨t115, t116⟩, A20, H⟩ := H; replace H : ((key_Prefix.f 3 (⟨#[120, 57]⟩ : ByteArray)).bind fun bt117 => ((key_Id.f (⟨#[109, 47, 97, 47]⟩ : ByteArray) t113).bind fun bt119 => ((key_Id.f (⟨#[109, 47, 97]⟩ : ByteArray) t113).bind fun bt121 => ((key_Flag.f (⟨#[122]⟩ : ByteArray)).bind fun bt123 => (if t113.toList = ([109, 47, 97, 47, 48, 48, 48, 48, 48, 48, 48, 48, 102, 102] : List UInt8) then (if t114 = true then (if t116 = true then (none) else (if bt117.1.toList = ([108, 47, 120, 57, 47] : List UInt8) then (if bt117.2 = true then (if bt119.1 = 255 then (if bt119.2 = true then (if bt121.2 = true then (none) else (if bt123.1.toList = ([112, 47, 122, 47, 111, 112, 101, 110] : List UInt8) then (if bt123.2 = true then ((key_Check.f t113).bind fun t125 => (if t125 = true then ((key_Check.f (⟨#[97, 32, 98]⟩ : ByteArray)).bind fun t126 => (if t126 = true then (none) else ((key_Name.f (⟨#[120, 57]⟩ : ByteArray)).bind fun t127 => (if t127 = true then ((key_Name.f (⟨#[]⟩ : ByteArray)).bind fun t128 => (if t128 = true then (none) else ((key_Under.f (⟨#[109, 47, 97, 47]⟩ : ByteArray) t113).bind fun t129 => (if t129 = true then ((key_Under.f t113 t113).bind fun t130 => (some (!t130))) else (none))))) else (none))))) else (none))) else (none)) else (none))) else (none)) else (none)) else (none)) else (none))) else (none)) else (none)))))) = some r := H; have A2 := Aside0.mk A20; clear A20; replace H := Option.bind_eq_some_iff.mp H; obtain ⟨⟨t117, t118⟩, A30, H⟩ := H; replace H : ((key_Id.f (⟨#[109, 47, 97, 47]⟩ : ByteArray) t113).bind fun bt119 => ((key_Id.f (⟨#[109, 47, 97]⟩ : ByteArray) t113).bind fun bt121 => ((key_Flag.f (⟨#[122]⟩ : ByteArray)).bind fun bt123 => (if t113.toList = ([109, 47, 97, 47, 48, 48, 48, 48, 48, 48, 48, 48, 102, 102] : List UInt8) then (if t114 = true then (if t116 = true then (none) else (if t117.toList = ([108, 47, 120, 57, 47] : List UInt8) then (if t118 = true then (if bt119.1 = 255 then (if bt119.2 = true then (if bt121.2 = true then (none) else (if bt123.1.toList = ([112, 47, 122, 47, 111, 112, 101, 110] : List UInt8) then (if bt123.2 = true then ((key_Check.f t113).bind fun t125 => (if t125 = true then ((key_Check.f (⟨#[97, 32, 98]⟩ : ByteArray)).bind fun t126 => (if t126 = true then (none) else ((key_Name.f (⟨#[120, 57]⟩ : ByteArray)).bind fun t127 => (if t127 = true then ((key_Name.f (⟨#[]⟩ : ByteArray)).bind fun t128 => (if t128 = true then (none) else ((key_Under.f (⟨#[109, 47, 97, 47]⟩ : ByteArray) t113).bind fun t129 => (if t129 = true then ((key_Under.f t113 t113).bind fun t130 => (some (!t130))) else (none))))) else (none))))) else (none))) else (none)) else (none))) else (none)) else (none)) else (none)) else (none))) else (none)) else (none))))) = some r := H; have A3 := Aside0.mk A30; clear A30; replace H := Option.bind_eq_some_iff.mp H; obtain ⟨⟨t119, t120⟩, A40, H⟩ := H; replace H : ((key_Id.f (⟨#[109, 47, 97]⟩ : ByteArray) t113).bind fun bt121 => ((key_Flag.f (⟨#[122]⟩ : ByteArray)).bind fun bt123 => (if t113.toList = ([109, 47, 97, 47, 48, 48, 48, 48, 48, 48, 48, 48, 102, 102] : List UInt8) then (if t114 = true then (if t116 = true then (none) else (if t117.toList = ([108, 47, 120, 57, 47] : List UInt8) then (if t118 = true then (if t119 = 255 then (if t120 = true then (if bt121.2 = true then (none) else (if bt123.1.toList = ([112, 47, 122, 47, 111, 112, 101, 110] : List UInt8) then (if bt123.2 = true then ((key_Check.f t113).bind fun t125 => (if t125 = true then ((key_Check.f (⟨#[97, 32, 98]⟩ : ByteArray)).bind fun t126 => (if t126 = true then (none) else ((key_Name.f (⟨#[120, 57]⟩ : ByteArray)).bind fun t127 => (if t127 = true then ((key_Name.f (⟨#[]⟩ : ByteArray)).bind fun t128 => (if t128 = true then (none) else ((key_Under.f (⟨#[109, 47, 97, 47]⟩ : ByteArray) t113).bind fun t129 => (if t129 = true then ((key_Under.f t113 t113).bind fun t130 => (some (!t130))) else (none))))) else (none))))) else (none))) else (none)) else (none))) else (none)) else (none)) else (none)) else (none))) else (none)) else (none)))) = some r := H
 have A4 := Aside0.mk A40; clear A40; replace H := Option.bind_eq_some_iff.mp H; obtain ⟨⟨t121, t122⟩, A50, H⟩ := H; replace H : ((key_Flag.f (⟨#[122]⟩ : ByteArray)).bind fun bt123 => (if t113.toList = ([109, 47, 97, 47, 48, 48, 48, 48, 48, 48, 48, 48, 102, 102] : List UInt8) then (if t114 = true then (if t116 = true then (none) else (if t117.toList = ([108, 47, 120, 57, 47] : List UInt8) then (if t118 = true then (if t119 = 255 then (if t120 = true then (if t122 = true then (none) else (if bt123.1.toList = ([112, 47, 122, 47, 111, 112, 101, 110] : List UInt8) then (if bt123.2 = true then ((key_Check.f t113).bind fun t125 => (if t125 = true then ((key_Check.f (⟨#[97, 32, 98]⟩ : ByteArray)).bind fun t126 => (if t126 = true then (none) else ((key_Name.f (⟨#[120, 57]⟩ : ByteArray)).bind fun t127 => (if t127 = true then ((key_Name.f (⟨#[]⟩ : ByteArray)).bind fun t128 => (if t128 = true then (none) else ((key_Under.f (⟨#[109, 47, 97, 47]⟩ : ByteArray) t113).bind fun t129 => (if t129 = true then ((key_Under.f t113 t113).bind fun t130 => (some (!t130))) else (none))))) else (none))))) else (none))) else (none)) else (none))) else (none)) else (none)) else (none)) else (none))) else (none)) else (none))) = some r := H; have A5 := Aside0.mk A50; clear A50; replace H := Option.bind_eq_some_iff.mp H; obtain ⟨⟨t123, t124⟩, A60, H⟩ := H; replace H : (if t113.toList = ([109, 47, 97, 47, 48, 48, 48, 48, 48, 48, 48, 48, 102, 102] : List UInt8) then (if t114 = true then (if t116 = true then (none) else (if t117.toList = ([108, 47, 120, 57, 47] : List UInt8) then (if t118 = true then (if t119 = 255 then (if t120 = true then (if t122 = true then (none) else (if t123.toList = ([112, 47, 122, 47, 111, 112, 101, 110] : List UInt8) then (if t124 = true then ((key_Check.f t113).bind fun t125 => (if t125 = true then ((key_Check.f (⟨#[97, 32, 98]⟩ : ByteArray)).bind fun t126 => (if t126 = true then (none) else ((key_Name.f (⟨#[120, 57]⟩ : ByteArray)).bind fun t127 => (if t127 = true then ((key_Name.f (⟨#[]⟩ : ByteArray)).bind fun t128 => (if t128 = true then (none) else ((key_Under.f (⟨#[109, 47, 97, 47]⟩ : ByteArray) t113).bind fun t129 => (if t129 = true then ((key_Under.f t113 t113).bind fun t130 => (some (!t130))) else (none))))) else (none))))) else (none))) else (none)) else (none))) else (none)) else (none)) else (none)) else (none))) else (none)) else (none)) = some r := H; have A6 := Aside0.mk A60; clear A60
 by_cases c7 : t113.toList = ([109, 47, 97, 47, 48, 48, 48, 48, 48, 48, 48, 48, 102, 102] : List UInt8)
 ·rw [if_pos c7] at H
  have c7b0 : (t113.toList == ([109, 47, 97, 47, 48, 48, 48, 48, 48, 48, 48, 48, 102, 102] : List UInt8)) = true := beq_iff_eq.mpr c7; have c7b1 : (t113.toList != ([109, 47, 97, 47, 48, 48, 48, 48, 48, 48, 48, 48, 102, 102] : List UInt8)) = false := bne_eq_false_iff_eq.mpr c7; clear c7
  by_cases c8 : t114 = true
  ·subst c8
   (have H1 : (if t116 = true then (none) else (if t117.toList = ([108, 47, 120, 57, 47] : List UInt8) then (if t118 = true then (if t119 = 255 then (if t120 = true then (if t122 = true then (none) else (if t123.toList = ([112, 47, 122, 47, 111, 112, 101, 110] : List UInt8) then (if t124 = true then ((key_Check.f t113).bind fun t125 => (if t125 = true then ((key_Check.f (⟨#[97, 32, 98]⟩ : ByteArray)).bind fun t126 => (if t126 = true then (none) else ((key_Name.f (⟨#[120, 57]⟩ : ByteArray)).bind fun t127 => (if t127 = true then ((key_Name.f (⟨#[]⟩ : ByteArray)).bind fun t128 => (if t128 = true then (none) else ((key_Under.f (⟨#[109, 47, 97, 47]⟩ : ByteArray) t113).bind fun t129 => (if t129 = true then ((key_Under.f t113 t113).bind fun t130 => (some (!t130))) else (none))))) else (none))))) else (none))) else (none)) else (none))) else (none)) else (none)) else (none)) else (none))) = some r := by rw [if_pos rfl] at H; exact H); clear H; have H := H1; clear H1
   by_cases c9 : t116 = true
   ·subst c9
    (have H1 : (none) = some r := by rw [if_pos rfl] at H; exact H); clear H; have H := H1; clear H1; exact absurd H (by simp)
   ·replace c9 := Bool.eq_false_iff.mpr c9
    subst c9; (have H1 : (if t117.toList = ([108, 47, 120, 57, 47] : List UInt8) then (if t118 = true then (if t119 = 255 then (if t120 = true then (if t122 = true then (none) else (if t123.toList = ([112, 47, 122, 47, 111, 112, 101, 110] : List UInt8) then (if t124 = true then ((key_Check.f t113).bind fun t125 => (if t125 = true then ((key_Check.f (⟨#[97, 32, 98]⟩ : ByteArray)).bind fun t126 => (if t126 = true then (none) else ((key_Name.f (⟨#[120, 57]⟩ : ByteArray)).bind fun t127 => (if t127 = true then ((key_Name.f (⟨#[]⟩ : ByteArray)).bind fun t128 => (if t128 = true then (none) else ((key_Under.f (⟨#[109, 47, 97, 47]⟩ : ByteArray) t113).bind fun t129 => (if t129 = true then ((key_Under.f t113 t113).bind fun t130 => (some (!t130))) else (none))))) else (none))))) else (none))) else (none)) else (none))) else (none)) else (none)) else (none)) else (none)) = some r := by rw [if_neg (show ¬ (false = true) by decide)] at H; exact H); clear H; have H := H1; clear H1
    by_cases c10 : t117.toList = ([108, 47, 120, 57, 47] : List UInt8)
    ·rw [if_pos c10] at H
     have c10b0 : (t117.toList == ([108, 47, 120, 57, 47] : List UInt8)) = true := beq_iff_eq.mpr c10; have c10b1 : (t117.toList != ([108, 47, 120, 57, 47] : List UInt8)) = false := bne_eq_false_iff_eq.mpr c10; clear c10
     by_cases c11 : t118 = true
     ·subst c11
      (have H1 : (if t119 = 255 then (if t120 = true then (if t122 = true then (none) else (if t123.toList = ([112, 47, 122, 47, 111, 112, 101, 110] : List UInt8) then (if t124 = true then ((key_Check.f t113).bind fun t125 => (if t125 = true then ((key_Check.f (⟨#[97, 32, 98]⟩ : ByteArray)).bind fun t126 => (if t126 = true then (none) else ((key_Name.f (⟨#[120, 57]⟩ : ByteArray)).bind fun t127 => (if t127 = true then ((key_Name.f (⟨#[]⟩ : ByteArray)).bind fun t128 => (if t128 = true then (none) else ((key_Under.f (⟨#[109, 47, 97, 47]⟩ : ByteArray) t113).bind fun t129 => (if t129 = true then ((key_Under.f t113 t113).bind fun t130 => (some (!t130))) else (none))))) else (none))))) else (none))) else (none)) else (none))) else (none)) else (none)) = some r := by rw [if_pos rfl] at H; exact H); clear H; have H := H1; clear H1
      by_cases c12 : t119 = 255
      ·rw [if_pos c12] at H
       have c12b0 : (t119 == 255) = true := beq_iff_eq.mpr c12; have c12b1 : (t119 != 255) = false := bne_eq_false_iff_eq.mpr c12; clear c12
       by_cases c13 : t120 = true
       ·subst c13
        (have H1 : (if t122 = true then (none) else (if t123.toList = ([112, 47, 122, 47, 111, 112, 101, 110] : List UInt8) then (if t124 = true then ((key_Check.f t113).bind fun t125 => (if t125 = true then ((key_Check.f (⟨#[97, 32, 98]⟩ : ByteArray)).bind fun t126 => (if t126 = true then (none) else ((key_Name.f (⟨#[120, 57]⟩ : ByteArray)).bind fun t127 => (if t127 = true then ((key_Name.f (⟨#[]⟩ : ByteArray)).bind fun t128 => (if t128 = true then (none) else ((key_Under.f (⟨#[109, 47, 97, 47]⟩ : ByteArray) t113).bind fun t129 => (if t129 = true then ((key_Under.f t113 t113).bind fun t130 => (some (!t130))) else (none))))) else (none))))) else (none))) else (none)) else (none))) = some r := by rw [if_pos rfl] at H; exact H); clear H; have H := H1; clear H1
        by_cases c14 : t122 = true
        ·subst c14
         (have H1 : (none) = some r := by rw [if_pos rfl] at H; exact H); clear H; have H := H1; clear H1; exact absurd H (by simp)
        ·replace c14 := Bool.eq_false_iff.mpr c14
         subst c14; (have H1 : (if t123.toList = ([112, 47, 122, 47, 111, 112, 101, 110] : List UInt8) then (if t124 = true then ((key_Check.f t113).bind fun t125 => (if t125 = true then ((key_Check.f (⟨#[97, 32, 98]⟩ : ByteArray)).bind fun t126 => (if t126 = true then (none) else ((key_Name.f (⟨#[120, 57]⟩ : ByteArray)).bind fun t127 => (if t127 = true then ((key_Name.f (⟨#[]⟩ : ByteArray)).bind fun t128 => (if t128 = true then (none) else ((key_Under.f (⟨#[109, 47, 97, 47]⟩ : ByteArray) t113).bind fun t129 => (if t129 = true then ((key_Under.f t113 t113).bind fun t130 => (some (!t130))) else (none))))) else (none))))) else (none))) else (none)) else (none)) = some r := by rw [if_neg (show ¬ (false = true) by decide)] at H; exact H); clear H; have H := H1; clear H1
         by_cases c15 : t123.toList = ([112, 47, 122, 47, 111, 112, 101, 110] : List UInt8)
         ·rw [if_pos c15] at H
          have c15b0 : (t123.toList == ([112, 47, 122, 47, 111, 112, 101, 110] : List UInt8)) = true := beq_iff_eq.mpr c15; have c15b1 : (t123.toList != ([112, 47, 122, 47, 111, 112, 101, 110] : List UInt8)) = false := bne_eq_false_iff_eq.mpr c15; clear c15
          by_cases c16 : t124 = true
          ·subst c16
           (have H1 : ((key_Check.f t113).bind fun t125 => (if t125 = true then ((key_Check.f (⟨#[97, 32, 98]⟩ : ByteArray)).bind fun t126 => (if t126 = true then (none) else ((key_Name.f (⟨#[120, 57]⟩ : ByteArray)).bind fun t127 => (if t127 = true then ((key_Name.f (⟨#[]⟩ : ByteArray)).bind fun t128 => (if t128 = true then (none) else ((key_Under.f (⟨#[109, 47, 97, 47]⟩ : ByteArray) t113).bind fun t129 => (if t129 = true then ((key_Under.f t113 t113).bind fun t130 => (some (!t130))) else (none))))) else (none))))) else (none))) = some r := by rw [if_pos rfl] at H; exact H); clear H; have H := H1; clear H1; replace H := Option.bind_eq_some_iff.mp H; obtain ⟨t125, A170, H⟩ := H; replace H : (if t125 = true then ((key_Check.f (⟨#[97, 32, 98]⟩ : ByteArray)).bind fun t126 => (if t126 = true then (none) else ((key_Name.f (⟨#[120, 57]⟩ : ByteArray)).bind fun t127 => (if t127 = true then ((key_Name.f (⟨#[]⟩ : ByteArray)).bind fun t128 => (if t128 = true then (none) else ((key_Under.f (⟨#[109, 47, 97, 47]⟩ : ByteArray) t113).bind fun t129 => (if t129 = true then ((key_Under.f t113 t113).bind fun t130 => (some (!t130))) else (none))))) else (none))))) else (none)) = some r := H; have A17 := Aside0.mk A170; clear A170
           by_cases c18 : t125 = true
           ·subst c18
            (have H1 : ((key_Check.f (⟨#[97, 32, 98]⟩ : ByteArray)).bind fun t126 => (if t126 = true then (none) else ((key_Name.f (⟨#[120, 57]⟩ : ByteArray)).bind fun t127 => (if t127 = true then ((key_Name.f (⟨#[]⟩ : ByteArray)).bind fun t128 => (if t128 = true then (none) else ((key_Under.f (⟨#[109, 47, 97, 47]⟩ : ByteArray) t113).bind fun t129 => (if t129 = true then ((key_Under.f t113 t113).bind fun t130 => (some (!t130))) else (none))))) else (none))))) = some r := by rw [if_pos rfl] at H; exact H); clear H; have H := H1; clear H1; replace H := Option.bind_eq_some_iff.mp H; obtain ⟨t126, A190, H⟩ := H; replace H : (if t126 = true then (none) else ((key_Name.f (⟨#[120, 57]⟩ : ByteArray)).bind fun t127 => (if t127 = true then ((key_Name.f (⟨#[]⟩ : ByteArray)).bind fun t128 => (if t128 = true then (none) else ((key_Under.f (⟨#[109, 47, 97, 47]⟩ : ByteArray) t113).bind fun t129 => (if t129 = true then ((key_Under.f t113 t113).bind fun t130 => (some (!t130))) else (none))))) else (none)))) = some r := H; have A19 := Aside0.mk A190; clear A190
            by_cases c20 : t126 = true
            ·subst c20
             (have H1 : (none) = some r := by rw [if_pos rfl] at H; exact H); clear H; have H := H1; clear H1; exact absurd H (by simp)
            ·replace c20 := Bool.eq_false_iff.mpr c20
             subst c20; (have H1 : ((key_Name.f (⟨#[120, 57]⟩ : ByteArray)).bind fun t127 => (if t127 = true then ((key_Name.f (⟨#[]⟩ : ByteArray)).bind fun t128 => (if t128 = true then (none) else ((key_Under.f (⟨#[109, 47, 97, 47]⟩ : ByteArray) t113).bind fun t129 => (if t129 = true then ((key_Under.f t113 t113).bind fun t130 => (some (!t130))) else (none))))) else (none))) = some r := by rw [if_neg (show ¬ (false = true) by decide)] at H; exact H); clear H; have H := H1; clear H1; replace H := Option.bind_eq_some_iff.mp H; obtain ⟨t127, A210, H⟩ := H; replace H : (if t127 = true then ((key_Name.f (⟨#[]⟩ : ByteArray)).bind fun t128 => (if t128 = true then (none) else ((key_Under.f (⟨#[109, 47, 97, 47]⟩ : ByteArray) t113).bind fun t129 => (if t129 = true then ((key_Under.f t113 t113).bind fun t130 => (some (!t130))) else (none))))) else (none)) = some r := H; have A21 := Aside0.mk A210; clear A210
             by_cases c22 : t127 = true
             ·subst c22
              (have H1 : ((key_Name.f (⟨#[]⟩ : ByteArray)).bind fun t128 => (if t128 = true then (none) else ((key_Under.f (⟨#[109, 47, 97, 47]⟩ : ByteArray) t113).bind fun t129 => (if t129 = true then ((key_Under.f t113 t113).bind fun t130 => (some (!t130))) else (none))))) = some r := by rw [if_pos rfl] at H; exact H); clear H; have H := H1; clear H1; replace H := Option.bind_eq_some_iff.mp H; obtain ⟨t128, A230, H⟩ := H; replace H : (if t128 = true then (none) else ((key_Under.f (⟨#[109, 47, 97, 47]⟩ : ByteArray) t113).bind fun t129 => (if t129 = true then ((key_Under.f t113 t113).bind fun t130 => (some (!t130))) else (none)))) = some r := H; have A23 := Aside0.mk A230; clear A230
              by_cases c24 : t128 = true
              ·subst c24
               (have H1 : (none) = some r := by rw [if_pos rfl] at H; exact H); clear H; have H := H1; clear H1; exact absurd H (by simp)
              ·replace c24 := Bool.eq_false_iff.mpr c24
               subst c24; (have H1 : ((key_Under.f (⟨#[109, 47, 97, 47]⟩ : ByteArray) t113).bind fun t129 => (if t129 = true then ((key_Under.f t113 t113).bind fun t130 => (some (!t130))) else (none))) = some r := by rw [if_neg (show ¬ (false = true) by decide)] at H; exact H); clear H; have H := H1; clear H1; replace H := Option.bind_eq_some_iff.mp H; obtain ⟨t129, A250, H⟩ := H; replace H : (if t129 = true then ((key_Under.f t113 t113).bind fun t130 => (some (!t130))) else (none)) = some r := H; have A25 := Aside0.mk A250; clear A250
               by_cases c26 : t129 = true
               ·subst c26
                (have H1 : ((key_Under.f t113 t113).bind fun t130 => (some (!t130))) = some r := by rw [if_pos rfl] at H; exact H); clear H; have H := H1; clear H1; replace H := Option.bind_eq_some_iff.mp H; obtain ⟨t130, A270, H⟩ := H; replace H : (some (!t130)) = some r := H; have A27 := Aside0.mk A270; clear A270; obtain rfl := Option.some.inj H
                go_enter Try.func9, Try.ntmps9
                go_wp2_with (first | ((with_reducible refine gate_callee (f := 12) rfl ?_); refine goesL_ (some 14) rfl rfl Try.func12 (by kernel_rfl) rfl #[.int .i64 1, .string (⟨#[97]⟩ : ByteArray), .int .i64 255] rfl My.ar ?_; (with_reducible refine (key_Ticket.calls 1 (⟨#[97]⟩ : ByteArray) 255 t113 true _ A1.out).mono ?_); rintro e w28 ⟨rfl, hb⟩; refine ⟨_, rfl, ?_⟩; have n0_ := Aside0.mk (below_step My.bB hb); clear HB; have HB := n0_; clear n0_) | ((with_reducible refine gate_callee (f := 12) rfl ?_); refine goesL_ (some 18) rfl rfl Try.func12 (by kernel_rfl) rfl #[.int .i64 1, .string (⟨#[65]⟩ : ByteArray), .int .i64 255] rfl My.ar ?_; (with_reducible refine (key_Ticket.calls 1 (⟨#[65]⟩ : ByteArray) 255 t115 false _ A2.out).mono ?_); rintro e w29 ⟨rfl, hb⟩; refine ⟨_, rfl, ?_⟩; have n0_ := Aside0.mk (below_step My.bB hb); clear HB; have HB := n0_; clear n0_) | ((with_reducible refine gate_callee (f := 10) rfl ?_); refine goesL_ (some 22) rfl rfl Try.func10 (by kernel_rfl) rfl #[.int .i64 3, .string (⟨#[120, 57]⟩ : ByteArray)] rfl My.ar ?_; (with_reducible refine (key_Prefix.calls 3 (⟨#[120, 57]⟩ : ByteArray) t117 true _ A3.out).mono ?_); rintro e w30 ⟨rfl, hb⟩; refine ⟨_, rfl, ?_⟩; have n0_ := Aside0.mk (below_step My.bB hb); clear HB; have HB := n0_; clear n0_) | ((with_reducible refine gate_callee (f := 20) rfl ?_); refine goesL_ (some 27) rfl rfl Try.func20 (by kernel_rfl) rfl #[.string (⟨#[109, 47, 97, 47]⟩ : ByteArray), .string t113] rfl My.ar ?_; (with_reducible refine (key_Id.calls (⟨#[109, 47, 97, 47]⟩ : ByteArray) t113 t119 true _ A4.out).mono ?_); rintro e w31 ⟨rfl, hb⟩; refine ⟨_, rfl, ?_⟩; have n0_ := Aside0.mk (below_step My.bB hb); clear HB; have HB := n0_; clear n0_) | ((with_reducible refine gate_callee (f := 20) rfl ?_); refine goesL_ (some 32) rfl rfl Try.func20 (by kernel_rfl) rfl #[.string (⟨#[109, 47, 97]⟩ : ByteArray), .string t113] rfl My.ar ?_; (with_reducible refine (key_Id.calls (⟨#[109, 47, 97]⟩ : ByteArray) t113 t121 false _ A5.out).mono ?_); rintro e w32 ⟨rfl, hb⟩; refine ⟨_, rfl, ?_⟩; have n0_ := Aside0.mk (below_step My.bB hb); clear HB; have HB := n0_; clear n0_) | ((with_reducible refine gate_callee (f := 14) rfl ?_); refine goesL_ (some 36) rfl rfl Try.func14 (by kernel_rfl) rfl #[.string (⟨#[122]⟩ : ByteArray)] rfl My.ar ?_; (with_reducible refine (key_Flag.calls (⟨#[122]⟩ : ByteArray) t123 true _ A6.out).mono ?_); rintro e w33 ⟨rfl, hb⟩; refine ⟨_, rfl, ?_⟩; have n0_ := Aside0.mk (below_step My.bB hb); clear HB; have HB := n0_; clear n0_) | (go_at_call 16; (with_reducible refine (key_Check.calls t113 true _ A17.out).mono ?_); rintro e w34 ⟨rfl, hb⟩; have n0_ := Aside0.mk (below_step My.bB hb); clear HB; have HB := n0_; clear n0_) | (go_at_call 16; (with_reducible refine (key_Check.calls (⟨#[97, 32, 98]⟩ : ByteArray) false _ A19.out).mono ?_); rintro e w35 ⟨rfl, hb⟩; have n0_ := Aside0.mk (below_step My.bB hb); clear HB; have HB := n0_; clear n0_) | (go_at_call 18; (with_reducible refine (key_Name.calls (⟨#[120, 57]⟩ : ByteArray) true _ A21.out).mono ?_); rintro e w36 ⟨rfl, hb⟩; have n0_ := Aside0.mk (below_step My.bB hb); clear HB; have HB := n0_; clear n0_) | (go_at_call 18; (with_reducible refine (key_Name.calls (⟨#[]⟩ : ByteArray) false _ A23.out).mono ?_); rintro e w37 ⟨rfl, hb⟩; have n0_ := Aside0.mk (below_step My.bB hb); clear HB; have HB := n0_; clear n0_) | (go_at_call 22; (with_reducible refine (key_Under.calls (⟨#[109, 47, 97, 47]⟩ : ByteArray) t113 true _ A25.out).mono ?_); rintro e w' ⟨rfl, ⟨nd, rfl⟩⟩) | (go_at_call 22; (with_reducible refine (key_Under.calls t113 t113 t130 _ A27.out).mono ?_); rintro e w' ⟨rfl, ⟨nd, rfl⟩⟩))
                go_ret
                exact ⟨My.q1, My.bB⟩
               ·replace c26 := Bool.eq_false_iff.mpr c26
                subst c26; (have H1 : (none) = some r := by rw [if_neg (show ¬ (false = true) by decide)] at H; exact H); clear H; have H := H1; clear H1; exact absurd H (by simp)
             ·replace c22 := Bool.eq_false_iff.mpr c22
              subst c22; (have H1 : (none) = some r := by rw [if_neg (show ¬ (false = true) by decide)] at H; exact H); clear H; have H := H1; clear H1; exact absurd H (by simp)
           ·replace c18 := Bool.eq_false_iff.mpr c18
            subst c18; (have H1 : (none) = some r := by rw [if_neg (show ¬ (false = true) by decide)] at H; exact H); clear H; have H := H1; clear H1; exact absurd H (by simp)
          ·replace c16 := Bool.eq_false_iff.mpr c16
           subst c16; (have H1 : (none) = some r := by rw [if_neg (show ¬ (false = true) by decide)] at H; exact H); clear H; have H := H1; clear H1; exact absurd H (by simp)
         ·exact My.no c15 H
       ·replace c13 := Bool.eq_false_iff.mpr c13
        subst c13; (have H1 : (none) = some r := by rw [if_neg (show ¬ (false = true) by decide)] at H; exact H); clear H; have H := H1; clear H1; exact absurd H (by simp)
      ·exact My.no c12 H
     ·replace c11 := Bool.eq_false_iff.mpr c11
      subst c11; (have H1 : (none) = some r := by rw [if_neg (show ¬ (false = true) by decide)] at H; exact H); clear H; have H := H1; clear H1; exact absurd H (by simp)
    ·exact My.no c10 H
  ·replace c8 := Bool.eq_false_iff.mpr c8
   subst c8; (have H1 : (none) = some r := by rw [if_neg (show ¬ (false = true) by decide)] at H; exact H); clear H; have H := H1; clear H1; exact absurd H (by simp)
 ·exact My.no c7 H

/-! ### batonref02_Name: function 19 -/
mutual
def batonref02_Name.j0 : Nat → ByteArray → Bool → Option (Bool)
  | 0, _, _ => none
  | k + 1, x0, x11 => if x11 = true then (some false) else (batonref02_Name.l0 k x0 0)
def batonref02_Name.l0 : Nat → ByteArray → Int → Option (Bool)
  | 0, _, _ => none
  | k + 1, x0, x3 => if x3 < (x0.size : Int) then (if 0 ≤ x3 then (if (bt x0 x3) < 97 then (if (bt x0 x3) < 48 then (some false) else (if (bt x0 x3) > 57 then (some false) else (batonref02_Name.l0 k x0 (wrap64 (x3 + 1))))) else (if (bt x0 x3) > 122 then (if (bt x0 x3) < 48 then (some false) else (if (bt x0 x3) > 57 then (some false) else (batonref02_Name.l0 k x0 (wrap64 (x3 + 1))))) else (batonref02_Name.l0 k x0 (wrap64 (x3 + 1))))) else (none)) else (some true)
end
def batonref02_Name.f (k : Nat) (a0 : ByteArray) : Option (Bool) := if (a0.size : Int) < 1 then (batonref02_Name.j0 k a0 true) else (batonref02_Name.j0 k a0 (decide ((a0.size : Int) > 12)))
theorem batonref02_Name.mono_l : ∀ k, (∀ y0 y1, LeO (batonref02_Name.j0 k y0 y1) (batonref02_Name.j0 (k + 1) y0 y1)) ∧ (∀ y0 y1, LeO (batonref02_Name.l0 k y0 y1) (batonref02_Name.l0 (k + 1) y0 y1))
  | 0 => ⟨fun _ _ r h => by simp [batonref02_Name.j0] at h, fun _ _ r h => by simp [batonref02_Name.l0] at h⟩
  | k + 1 => by
    obtain ⟨ih0, ih1⟩ := batonref02_Name.mono_l k
    refine ⟨?_, ?_⟩
    · intro y0 y1
      unfold batonref02_Name.j0
      exact My.mono_
    · intro y0 y1
      unfold batonref02_Name.l0
      exact My.mono_
theorem batonref02_Name.mono : ∀ a0 k, LeO (batonref02_Name.f k a0) (batonref02_Name.f (k + 1) a0) := by
  intro a0 k
  obtain ⟨ih0, ih1⟩ := batonref02_Name.mono_l k
  unfold batonref02_Name.f
  exact My.mono_
set_option maxHeartbeats 8000000 in
set_option maxRecDepth 100000 in
theorem batonref02_Name.calls (k : Nat) (a0 : ByteArray) (r : Bool) (w : World) (h : batonref02_Name.f k a0 = some r) :
    Calls Try.prog 19 #[.string a0] w fun e w' => e = .returned (.bool r) ∧ Drawn0 w w' := by
  have H : (if (a0.size : Int) < 1 then (batonref02_Name.j0 k a0 true) else (batonref02_Name.j0 k a0 (decide ((a0.size : Int) > 12)))) = some r := h; clear h; have HC2 := Aside0.mk H; clear H
  go_enter Try.func19, Try.ntmps19
  go_upto_region 1 with (fail)
  go_cut [11] (fun v11 wc => ∃ (kq : Nat) (x11_1 : Bool), v11 = .bool x11_1 ∧ Aside0 (batonref02_Name.j0 kq a0 x11_1 = some r) ∧ Aside0 (kq ≤ k) ∧ Drawn0 w wc)
  case first =>
    have H := HC2.out; clear HC2
    by_cases c3 : (a0.size : Int) < 1
    · rw [if_pos c3] at H
      have c3b0 := decide_eq_true c3; have c3b1 : decide (a0.size < 1) = true := decide_eq_true (by omega); clear c3; (first | rw [c3b0] | (simp only [i64_w, i32_w]; rw [c3b0]) | skip); have H' := Aside0.mk H; clear H
      go_wp2
      go_meet
      case rel => exact ⟨_, (true), My.q0, H', ⟨by first | omega | exact Nat.le_refl _⟩, My.dD⟩
    · rw [if_neg c3] at H
      have c3b0 := decide_eq_false c3; have c3b1 : decide (a0.size < 1) = false := decide_eq_false (by omega); clear c3; (first | rw [c3b0] | (simp only [i64_w, i32_w]; rw [c3b0]) | skip); have H' := Aside0.mk H; clear H
      go_wp2
      go_meet
      case rel => exact ⟨_, (decide ((a0.size : Int) > 12)), My.q0, H', ⟨by first | omega | exact Nat.le_refl _⟩, My.dD⟩
  case rest =>
    clear HC2; (try clear c1); (try clear p2); (try clear c3); (try clear c3b0); (try clear c3b1); obtain ⟨kq, x11_1, rfl, HA, HJ1, ⟨mc1, rfl⟩⟩ := hcut
    cases kq with
    | zero => exact absurd HA.out (by simp [batonref02_Name.j0])
    | succ kj1 =>
      have H := HA.out; clear HA; simp only [batonref02_Name.j0] at H
      by_cases c4 : x11_1 = true
      · subst c4
        (have H1 : (some false) = some r := by rw [if_pos rfl] at H; exact H); clear H; have H := H1; clear H1; obtain rfl := Option.some.inj H
        go_wp2
        go_ret
        exact ⟨My.q0, My.dD⟩
      · replace c4 := Bool.eq_false_iff.mpr c4
        subst c4; (have H1 : (batonref02_Name.l0 kj1 a0 0) = some r := by rw [if_neg (show ¬ (false = true) by decide)] at H; exact H); clear H; have H := H1; clear H1; have H' := Aside0.mk H; clear H
        go_wp2
        go_loopg [3] kj1 (fun kq v3 w' => ∃ (x3_2 : Int), v3 = .int .i64 x3_2 ∧ Aside0 (batonref02_Name.l0 kq a0 x3_2 = some r) ∧ Aside0 (kq ≤ kj1) ∧ Drawn0 w w')
        case atStart => exact ⟨(0), My.q0, H', ⟨Nat.le_refl _⟩, My.dD⟩
        case round =>
          clear H'; (try clear c1); (try clear p2); (try clear c3); (try clear c3b0); (try clear c3b1); (try clear c4); (try clear p2); obtain ⟨x3_2, rfl, HA, HK2, ⟨m2, rfl⟩⟩ := hrel
          cases gk with
          | zero => exact absurd HA.out (by simp [batonref02_Name.l0])
          | succ k2 =>
            have H := HA.out; clear HA; simp only [batonref02_Name.l0] at H
            by_cases c5 : x3_2 < (a0.size : Int)
            · rw [if_pos c5] at H
              have c5b0 := decide_eq_true c5; clear c5
              by_cases c6 : 0 ≤ x3_2
              · rw [if_pos c6] at H
                have c6b0 := decide_eq_true c6; clear c6
                by_cases c8 : (bt a0 x3_2) < 97
                · rw [if_pos c8] at H
                  have c8b0 := decide_eq_true c8; clear c8
                  by_cases c10 : (bt a0 x3_2) < 48
                  · rw [if_pos c10] at H
                    have c10b0 := decide_eq_true c10; clear c10; obtain rfl := Option.some.inj H; have p7 : 0 ≤ (x3_2 : Int) := of_decide_eq_true My.as; have q7 : x3_2 < (a0.size : Int) := of_decide_eq_true My.as; have hx7 := bt_at a0 x3_2; replace p7 := eq_true p7; replace q7 := eq_true q7; have p9 : 0 ≤ (x3_2 : Int) := of_decide_eq_true My.as; have q9 : x3_2 < (a0.size : Int) := of_decide_eq_true My.as; have hx9 := bt_at a0 x3_2; replace p9 := eq_true p9; replace q9 := eq_true q9
                    go_wp2
                    go_ret
                    exact ⟨My.q0, My.dD⟩
                  · rw [if_neg c10] at H
                    have c10b0 := decide_eq_false c10; clear c10
                    by_cases c12 : (bt a0 x3_2) > 57
                    · rw [if_pos c12] at H
                      have c12b0 := decide_eq_true c12; clear c12; obtain rfl := Option.some.inj H; have p7 : 0 ≤ (x3_2 : Int) := of_decide_eq_true My.as; have q7 : x3_2 < (a0.size : Int) := of_decide_eq_true My.as; have hx7 := bt_at a0 x3_2; replace p7 := eq_true p7; replace q7 := eq_true q7; have p9 : 0 ≤ (x3_2 : Int) := of_decide_eq_true My.as; have q9 : x3_2 < (a0.size : Int) := of_decide_eq_true My.as; have hx9 := bt_at a0 x3_2; replace p9 := eq_true p9; replace q9 := eq_true q9; have p11 : 0 ≤ (x3_2 : Int) := of_decide_eq_true My.as; have q11 : x3_2 < (a0.size : Int) := of_decide_eq_true My.as; have hx11 := bt_at a0 x3_2; replace p11 := eq_true p11; replace q11 := eq_true q11
                      go_wp2
                      go_ret
                      exact ⟨My.q0, My.dD⟩
                    · rw [if_neg c12] at H
                      have c12b0 := decide_eq_false c12; clear c12; have H' := Aside0.mk H; clear H; have p7 : 0 ≤ (x3_2 : Int) := of_decide_eq_true My.as; have q7 : x3_2 < (a0.size : Int) := of_decide_eq_true My.as; have hx7 := bt_at a0 x3_2; replace p7 := eq_true p7; replace q7 := eq_true q7; have p9 : 0 ≤ (x3_2 : Int) := of_decide_eq_true My.as; have q9 : x3_2 < (a0.size : Int) := of_decide_eq_true My.as; have hx9 := bt_at a0 x3_2; replace p9 := eq_true p9; replace q9 := eq_true q9; have p11 : 0 ≤ (x3_2 : Int) := of_decide_eq_true My.as; have q11 : x3_2 < (a0.size : Int) := of_decide_eq_true My.as; have hx11 := bt_at a0 x3_2; replace p11 := eq_true p11; replace q11 := eq_true q11
                      go_wp2
                      go_roundg k2
                      case measure => have := HJ1.out; have := HK2.out; omega
                      case rel => exact ⟨(wrap64 (x3_2 + 1)), My.q0, H', ⟨by have := HJ1.out; have := HK2.out; omega⟩, My.dD⟩
                · rw [if_neg c8] at H
                  have c8b0 := decide_eq_false c8; clear c8
                  by_cases c14 : (bt a0 x3_2) > 122
                  · rw [if_pos c14] at H
                    have c14b0 := decide_eq_true c14; clear c14
                    by_cases c16 : (bt a0 x3_2) < 48
                    · rw [if_pos c16] at H
                      have c16b0 := decide_eq_true c16; clear c16; obtain rfl := Option.some.inj H; have p7 : 0 ≤ (x3_2 : Int) := of_decide_eq_true My.as; have q7 : x3_2 < (a0.size : Int) := of_decide_eq_true My.as; have hx7 := bt_at a0 x3_2; replace p7 := eq_true p7; replace q7 := eq_true q7; have p13 : 0 ≤ (x3_2 : Int) := of_decide_eq_true My.as; have q13 : x3_2 < (a0.size : Int) := of_decide_eq_true My.as; have hx13 := bt_at a0 x3_2; replace p13 := eq_true p13; replace q13 := eq_true q13; have p15 : 0 ≤ (x3_2 : Int) := of_decide_eq_true My.as; have q15 : x3_2 < (a0.size : Int) := of_decide_eq_true My.as; have hx15 := bt_at a0 x3_2; replace p15 := eq_true p15; replace q15 := eq_true q15
                      go_wp2
                      go_ret
                      exact ⟨My.q0, My.dD⟩
                    · rw [if_neg c16] at H
                      have c16b0 := decide_eq_false c16; clear c16
                      by_cases c18 : (bt a0 x3_2) > 57
                      · rw [if_pos c18] at H
                        have c18b0 := decide_eq_true c18; clear c18; obtain rfl := Option.some.inj H; have p7 : 0 ≤ (x3_2 : Int) := of_decide_eq_true My.as; have q7 : x3_2 < (a0.size : Int) := of_decide_eq_true My.as; have hx7 := bt_at a0 x3_2; replace p7 := eq_true p7; replace q7 := eq_true q7; have p13 : 0 ≤ (x3_2 : Int) := of_decide_eq_true My.as; have q13 : x3_2 < (a0.size : Int) := of_decide_eq_true My.as; have hx13 := bt_at a0 x3_2; replace p13 := eq_true p13; replace q13 := eq_true q13; have p15 : 0 ≤ (x3_2 : Int) := of_decide_eq_true My.as; have q15 : x3_2 < (a0.size : Int) := of_decide_eq_true My.as; have hx15 := bt_at a0 x3_2; replace p15 := eq_true p15; replace q15 := eq_true q15; have p17 : 0 ≤ (x3_2 : Int) := of_decide_eq_true My.as; have q17 : x3_2 < (a0.size : Int) := of_decide_eq_true My.as; have hx17 := bt_at a0 x3_2; replace p17 := eq_true p17; replace q17 := eq_true q17
                        go_wp2
                        go_ret
                        exact ⟨My.q0, My.dD⟩
                      · rw [if_neg c18] at H
                        have c18b0 := decide_eq_false c18; clear c18; have H' := Aside0.mk H; clear H; have p7 : 0 ≤ (x3_2 : Int) := of_decide_eq_true My.as; have q7 : x3_2 < (a0.size : Int) := of_decide_eq_true My.as; have hx7 := bt_at a0 x3_2; replace p7 := eq_true p7; replace q7 := eq_true q7; have p13 : 0 ≤ (x3_2 : Int) := of_decide_eq_true My.as; have q13 : x3_2 < (a0.size : Int) := of_decide_eq_true My.as; have hx13 := bt_at a0 x3_2; replace p13 := eq_true p13; replace q13 := eq_true q13; have p15 : 0 ≤ (x3_2 : Int) := of_decide_eq_true My.as; have q15 : x3_2 < (a0.size : Int) := of_decide_eq_true My.as; have hx15 := bt_at a0 x3_2; replace p15 := eq_true p15; replace q15 := eq_true q15; have p17 : 0 ≤ (x3_2 : Int) := of_decide_eq_true My.as; have q17 : x3_2 < (a0.size : Int) := of_decide_eq_true My.as; have hx17 := bt_at a0 x3_2; replace p17 := eq_true p17; replace q17 := eq_true q17
                        go_wp2
                        go_roundg k2
                        case measure => have := HJ1.out; have := HK2.out; omega
                        case rel => exact ⟨(wrap64 (x3_2 + 1)), My.q0, H', ⟨by have := HJ1.out; have := HK2.out; omega⟩, My.dD⟩
                  · rw [if_neg c14] at H
                    have c14b0 := decide_eq_false c14; clear c14; have H' := Aside0.mk H; clear H; have p7 : 0 ≤ (x3_2 : Int) := of_decide_eq_true My.as; have q7 : x3_2 < (a0.size : Int) := of_decide_eq_true My.as; have hx7 := bt_at a0 x3_2; replace p7 := eq_true p7; replace q7 := eq_true q7; have p13 : 0 ≤ (x3_2 : Int) := of_decide_eq_true My.as; have q13 : x3_2 < (a0.size : Int) := of_decide_eq_true My.as; have hx13 := bt_at a0 x3_2; replace p13 := eq_true p13; replace q13 := eq_true q13
                    go_wp2
                    go_roundg k2
                    case measure => have := HJ1.out; have := HK2.out; omega
                    case rel => exact ⟨(wrap64 (x3_2 + 1)), My.q0, H', ⟨by have := HJ1.out; have := HK2.out; omega⟩, My.dD⟩
              · exact My.no c6 H
            · rw [if_neg c5] at H
              have c5b0 := decide_eq_false c5; clear c5; obtain rfl := Option.some.inj H
              go_wp2
              go_ret
              exact ⟨My.q0, My.dD⟩

/-! ### batonref02_Prefix: function 11 -/
mutual
def batonref02_Prefix.j0 : Nat → ByteArray → ByteArray → Int → Bool → Option (ByteArray × Bool)
 | 0, _, _, _, _ => none
 | k + 1, x1, x6, x7, x10 => if x10 = true then (if ([108] : List UInt8) = ([] : List UInt8) then (some ((⟨#[]⟩ : ByteArray), false)) else ((batonref02_Name.f k x1).bind fun t132 => (if t132 = true then (if 1 + 1 ≤ 9223372036854775807 then (if 1 + x1.size ≤ 9223372036854775807 then (if (((⟨#[108]⟩ : ByteArray) ++ (⟨#[47]⟩ : ByteArray)) ++ x1).size + 1 ≤ 9223372036854775807 then (some ((((⟨#[108]⟩ : ByteArray) ++ (⟨#[47]⟩ : ByteArray)) ++ x1) ++ (⟨#[47]⟩ : ByteArray), true)) else (none)) else (none)) else (none)) else (some ((⟨#[]⟩ : ByteArray), false))))) else (if x7 = 4 then (if ([115] : List UInt8) = ([] : List UInt8) then (some ((⟨#[]⟩ : ByteArray), false)) else ((batonref02_Name.f k x1).bind fun t133 => (if t133 = true then (if 1 + 1 ≤ 9223372036854775807 then (if 1 + x1.size ≤ 9223372036854775807 then (if (((⟨#[115]⟩ : ByteArray) ++ (⟨#[47]⟩ : ByteArray)) ++ x1).size + 1 ≤ 9223372036854775807 then (some ((((⟨#[115]⟩ : ByteArray) ++ (⟨#[47]⟩ : ByteArray)) ++ x1) ++ (⟨#[47]⟩ : ByteArray), true)) else (none)) else (none)) else (none)) else (some ((⟨#[]⟩ : ByteArray), false))))) else (if x7 = 5 then (if ([101] : List UInt8) = ([] : List UInt8) then (some ((⟨#[]⟩ : ByteArray), false)) else ((batonref02_Name.f k x1).bind fun t134 => (if t134 = true then (if 1 + 1 ≤ 9223372036854775807 then (if 1 + x1.size ≤ 9223372036854775807 then (if (((⟨#[101]⟩ : ByteArray) ++ (⟨#[47]⟩ : ByteArray)) ++ x1).size + 1 ≤ 9223372036854775807 then (some ((((⟨#[101]⟩ : ByteArray) ++ (⟨#[47]⟩ : ByteArray)) ++ x1) ++ (⟨#[47]⟩ : ByteArray), true)) else (none)) else (none)) else (none)) else (some ((⟨#[]⟩ : ByteArray), false))))) else (if x7 = 6 then (if ([112] : List UInt8) = ([] : List UInt8) then (some ((⟨#[]⟩ : ByteArray), false)) else ((batonref02_Name.f k x1).bind fun t135 => (if t135 = true then (if 1 + 1 ≤ 9223372036854775807 then (if 1 + x1.size ≤ 9223372036854775807 then (if (((⟨#[112]⟩ : ByteArray) ++ (⟨#[47]⟩ : ByteArray)) ++ x1).size + 1 ≤ 9223372036854775807 then (some ((((⟨#[112]⟩ : ByteArray) ++ (⟨#[47]⟩ : ByteArray)) ++ x1) ++ (⟨#[47]⟩ : ByteArray), true)) else (none)) else (none)) else (none)) else (some ((⟨#[]⟩ : ByteArray), false))))) else (if x7 = 7 then (batonref02_Prefix.j1 k x1 x6 (x7 == 7)) else (batonref02_Prefix.j1 k x1 x6 (x7 == 8))))))
def batonref02_Prefix.j1 : Nat → ByteArray → ByteArray → Bool → Option (ByteArray × Bool)
 | 0, _, _, _ => none
 | k + 1, x1, x6, x19 => if x19 = true then (if ([113] : List UInt8) = ([] : List UInt8) then (some ((⟨#[]⟩ : ByteArray), false)) else ((batonref02_Name.f k x1).bind fun t136 => (if t136 = true then (if 1 + 1 ≤ 9223372036854775807 then (if 1 + x1.size ≤ 9223372036854775807 then (if (((⟨#[113]⟩ : ByteArray) ++ (⟨#[47]⟩ : ByteArray)) ++ x1).size + 1 ≤ 9223372036854775807 then (some ((((⟨#[113]⟩ : ByteArray) ++ (⟨#[47]⟩ : ByteArray)) ++ x1) ++ (⟨#[47]⟩ : ByteArray), true)) else (none)) else (none)) else (none)) else (some ((⟨#[]⟩ : ByteArray), false))))) else (if x6.toList = ([] : List UInt8) then (some ((⟨#[]⟩ : ByteArray), false)) else ((batonref02_Name.f k x1).bind fun t137 => (if t137 = true then (if x6.size + 1 ≤ 9223372036854775807 then (if (x6 ++ (⟨#[47]⟩ : ByteArray)).size + x1.size ≤ 9223372036854775807 then (if ((x6 ++ (⟨#[47]⟩ : ByteArray)) ++ x1).size + 1 ≤ 9223372036854775807 then (some (((x6 ++ (⟨#[47]⟩ : ByteArray)) ++ x1) ++ (⟨#[47]⟩ : ByteArray), true)) else (none)) else (none)) else (none)) else (some ((⟨#[]⟩ : ByteArray), false)))))
end
def batonref02_Prefix.f (k : Nat) (a0 : Int) (a1 : ByteArray) : Option (ByteArray × Bool) := if a0 = 1 then (if ([109] : List UInt8) = ([] : List UInt8) then (some ((⟨#[]⟩ : ByteArray), false)) else ((batonref02_Name.f k a1).bind fun t131 => (if t131 = true then (if 1 + 1 ≤ 9223372036854775807 then (if 1 + a1.size ≤ 9223372036854775807 then (if (((⟨#[109]⟩ : ByteArray) ++ (⟨#[47]⟩ : ByteArray)) ++ a1).size + 1 ≤ 9223372036854775807 then (some ((((⟨#[109]⟩ : ByteArray) ++ (⟨#[47]⟩ : ByteArray)) ++ a1) ++ (⟨#[47]⟩ : ByteArray), true)) else (none)) else (none)) else (none)) else (some ((⟨#[]⟩ : ByteArray), false))))) else (if a0 = 2 then (batonref02_Prefix.j0 k a1 (⟨#[]⟩ : ByteArray) a0 (a0 == 2)) else (batonref02_Prefix.j0 k a1 (⟨#[]⟩ : ByteArray) a0 (a0 == 3)))
theorem batonref02_Prefix.mono_l : ∀ k, (∀ y0 y1 y2 y3, LeO (batonref02_Prefix.j0 k y0 y1 y2 y3) (batonref02_Prefix.j0 (k + 1) y0 y1 y2 y3)) ∧ (∀ y0 y1 y2, LeO (batonref02_Prefix.j1 k y0 y1 y2) (batonref02_Prefix.j1 (k + 1) y0 y1 y2))
 | 0 => ⟨fun _ _ _ _ r h => by simp [batonref02_Prefix.j0] at h, fun _ _ _ r h => by simp [batonref02_Prefix.j1] at h⟩
 | k + 1 => by
  obtain ⟨ih0, ih1⟩ := batonref02_Prefix.mono_l k
  refine ⟨?_, ?_⟩
  ·intro y0 y1 y2 y3
   unfold batonref02_Prefix.j0
   have ic0 := @batonref02_Name.mono; exact My.mono_
  ·intro y0 y1 y2
   unfold batonref02_Prefix.j1
   have ic0 := @batonref02_Name.mono; exact My.mono_
theorem batonref02_Prefix.mono : ∀ a0 a1 k, LeO (batonref02_Prefix.f k a0 a1) (batonref02_Prefix.f (k + 1) a0 a1) := by
 intro a0 a1 k
 obtain ⟨ih0, ih1⟩ := batonref02_Prefix.mono_l k
 unfold batonref02_Prefix.f
 have ic0 := @batonref02_Name.mono; exact My.mono_
set_option maxHeartbeats 8000000 in
set_option maxRecDepth 100000 in
theorem batonref02_Prefix.calls (k : Nat) (a0 : Int) (a1 : ByteArray) (r1 : ByteArray) (r2 : Bool) (w : World) (h : batonref02_Prefix.f k a0 a1 = some (r1, r2)) :
  Calls Try.prog 11 #[.int .i64 a0, .string a1] w fun e w' => e = .returned (.tuple #[.string r1, .bool r2]) ∧ Drawn0 w w' := by
 have H : (if a0 = 1 then (if ([109] : List UInt8) = ([] : List UInt8) then (some ((⟨#[]⟩ : ByteArray), false)) else ((batonref02_Name.f k a1).bind fun t131 => (if t131 = true then (if 1 + 1 ≤ 9223372036854775807 then (if 1 + a1.size ≤ 9223372036854775807 then (if (((⟨#[109]⟩ : ByteArray) ++ (⟨#[47]⟩ : ByteArray)) ++ a1).size + 1 ≤ 9223372036854775807 then (some ((((⟨#[109]⟩ : ByteArray) ++ (⟨#[47]⟩ : ByteArray)) ++ a1) ++ (⟨#[47]⟩ : ByteArray), true)) else (none)) else (none)) else (none)) else (some ((⟨#[]⟩ : ByteArray), false))))) else (if a0 = 2 then (batonref02_Prefix.j0 k a1 (⟨#[]⟩ : ByteArray) a0 (a0 == 2)) else (batonref02_Prefix.j0 k a1 (⟨#[]⟩ : ByteArray) a0 (a0 == 3)))) = some (r1, r2) := h; clear h
 by_cases c3 : a0 = 1
 ·rw [if_pos c3] at H
  have c3b0 : (a0 == 1) = true := beq_iff_eq.mpr c3; have c3b1 : (a0 != 1) = false := bne_eq_false_iff_eq.mpr c3; clear c3
  by_cases c4 : ([109] : List UInt8) = ([] : List UInt8)
  ·rw [if_pos c4] at H
   have c4b0 : (([109] : List UInt8) == ([] : List UInt8)) = true := beq_iff_eq.mpr c4; have c4b1 : (([109] : List UInt8) != ([] : List UInt8)) = false := bne_eq_false_iff_eq.mpr c4; clear c4; simp only [Option.some.injEq, Prod.mk.injEq] at H; obtain ⟨rfl, rfl⟩ := H
   go_enter Try.func11, Try.ntmps11
   go_wp2
   go_ret2
   exact ⟨by first | rfl | (simp; done) | (simp [*]; done) | exact absurd (by first | rfl | simp | decide +kernel) c49, My.dD⟩
  ·rw [if_neg c4] at H
   have c4b0 : (([109] : List UInt8) == ([] : List UInt8)) = false := beq_eq_false_iff_ne.mpr c4; have c4b1 : (([109] : List UInt8) != ([] : List UInt8)) = true := bne_iff_ne.mpr c4; replace H := Option.bind_eq_some_iff.mp H; obtain ⟨t131, A50, H⟩ := H; replace H : (if t131 = true then (if 1 + 1 ≤ 9223372036854775807 then (if 1 + a1.size ≤ 9223372036854775807 then (if (((⟨#[109]⟩ : ByteArray) ++ (⟨#[47]⟩ : ByteArray)) ++ a1).size + 1 ≤ 9223372036854775807 then (some ((((⟨#[109]⟩ : ByteArray) ++ (⟨#[47]⟩ : ByteArray)) ++ a1) ++ (⟨#[47]⟩ : ByteArray), true)) else (none)) else (none)) else (none)) else (some ((⟨#[]⟩ : ByteArray), false))) = some (r1, r2) := H; have A5 := Aside0.mk A50; clear A50
   by_cases c6 : t131 = true
   ·subst c6
    (have H1 : (if 1 + 1 ≤ 9223372036854775807 then (if 1 + a1.size ≤ 9223372036854775807 then (if (((⟨#[109]⟩ : ByteArray) ++ (⟨#[47]⟩ : ByteArray)) ++ a1).size + 1 ≤ 9223372036854775807 then (some ((((⟨#[109]⟩ : ByteArray) ++ (⟨#[47]⟩ : ByteArray)) ++ a1) ++ (⟨#[47]⟩ : ByteArray), true)) else (none)) else (none)) else (none)) = some (r1, r2) := by rw [if_pos rfl] at H; exact H); clear H; have H := H1; clear H1
    by_cases c7 : 1 + 1 ≤ 9223372036854775807
    ·rw [if_pos c7] at H
     have c7b0 := eq_true c7; have c7b1 : decide (1 + 1 ≤ 9223372036854775807) = true := decide_eq_true c7; (try have c7b2 : (9223372036854775807 < 1 + 1) = False := eq_false (Nat.not_lt.2 c7))
     by_cases c8 : 1 + a1.size ≤ 9223372036854775807
     ·rw [if_pos c8] at H
      have c8b0 := eq_true c8; have c8b1 : decide (1 + a1.size ≤ 9223372036854775807) = true := decide_eq_true c8; (try have c8b2 : (9223372036854775807 < 1 + a1.size) = False := eq_false (Nat.not_lt.2 c8))
      by_cases c9 : (((⟨#[109]⟩ : ByteArray) ++ (⟨#[47]⟩ : ByteArray)) ++ a1).size + 1 ≤ 9223372036854775807
      ·rw [if_pos c9] at H
       have c9b0 := eq_true c9; have c9b1 : decide ((((⟨#[109]⟩ : ByteArray) ++ (⟨#[47]⟩ : ByteArray)) ++ a1).size + 1 ≤ 9223372036854775807) = true := decide_eq_true c9; (try have c9b2 : (9223372036854775807 < (((⟨#[109]⟩ : ByteArray) ++ (⟨#[47]⟩ : ByteArray)) ++ a1).size + 1) = False := eq_false (Nat.not_lt.2 c9)); (try (have c9b5 := c9b2; simp only [ByteArray.size_append, ByteArray.size_extract, My.size_mk, List.size_toArray, List.length_cons, List.length_nil, Nat.zero_add, Nat.reduceAdd] at c9b5)); (try (have c9b6 : (9223372036854775807 < (((⟨#[109]⟩ : ByteArray) ++ (⟨#[47]⟩ : ByteArray)) ++ a1).size) = False := eq_false (by have := c9; omega); simp only [ByteArray.size_append, ByteArray.size_extract, My.size_mk, List.size_toArray, List.length_cons, List.length_nil, Nat.zero_add, Nat.reduceAdd] at c9b6)); simp only [Option.some.injEq, Prod.mk.injEq] at H; obtain ⟨rfl, rfl⟩ := H
       go_enter Try.func11, Try.ntmps11
       go_wp2_with (first | (go_at_call 19; (with_reducible refine (batonref02_Name.calls k a1 true _ A5.out).mono ?_); rintro e w' ⟨rfl, ⟨nd, rfl⟩⟩))
       go_ret2
       exact ⟨by first | rfl | (simp; done) | (simp [*]; done) | exact absurd (by first | rfl | simp | decide +kernel) c49, My.dD⟩
      ·exact My.no c9 H
     ·exact My.no c8 H
    ·exact My.no c7 H
   ·replace c6 := Bool.eq_false_iff.mpr c6
    subst c6; (have H1 : (some ((⟨#[]⟩ : ByteArray), false)) = some (r1, r2) := by rw [if_neg (show ¬ (false = true) by decide)] at H; exact H); clear H; have H := H1; clear H1; simp only [Option.some.injEq, Prod.mk.injEq] at H; obtain ⟨rfl, rfl⟩ := H
    go_enter Try.func11, Try.ntmps11
    go_wp2_with (first | (go_at_call 19; (with_reducible refine (batonref02_Name.calls k a1 false _ A5.out).mono ?_); rintro e w' ⟨rfl, ⟨nd, rfl⟩⟩))
    go_ret2
    exact ⟨by first | rfl | (simp; done) | (simp [*]; done) | exact absurd (by first | rfl | simp | decide +kernel) c49, My.dD⟩
 ·rw [if_neg c3] at H
  have c3b0 : (a0 == 1) = false := beq_eq_false_iff_ne.mpr c3; have c3b1 : (a0 != 1) = true := bne_iff_ne.mpr c3; have HC10 := Aside0.mk H; clear H
  go_enter Try.func11, Try.ntmps11
  go_upto_if 10 with (fail)
  go_cut [10] (fun v10 wc => ∃ (kq : Nat) (x10_9 : Bool), v10 = .bool x10_9 ∧ Aside0 (batonref02_Prefix.j0 kq a1 (⟨#[]⟩ : ByteArray) a0 x10_9 = some (r1, r2)) ∧ Aside0 (kq ≤ k) ∧ Drawn0 w wc)
  case first =>
   have H := HC10.out; clear HC10
   by_cases c11 : a0 = 2
   ·rw [if_pos c11] at H
    have c11b0 : (a0 == 2) = true := beq_iff_eq.mpr c11; have c11b1 : (a0 != 2) = false := bne_eq_false_iff_eq.mpr c11; clear c11; (first | rw [c11b0] | (simp only [i64_w, i32_w]; rw [c11b0]) | skip); have H' := Aside0.mk H; clear H
    go_wp2
    go_meet
    case rel => exact ⟨_, ((a0 == 2)), My.q0, H', ⟨by first | omega | exact Nat.le_refl _⟩, My.dD⟩
   ·rw [if_neg c11] at H
    have c11b0 : (a0 == 2) = false := beq_eq_false_iff_ne.mpr c11; have c11b1 : (a0 != 2) = true := bne_iff_ne.mpr c11; (first | rw [c11b0] | (simp only [i64_w, i32_w]; rw [c11b0]) | skip); have H' := Aside0.mk H; clear H
    go_wp2
    go_meet
    case rel => exact ⟨_, ((a0 == 3)), My.q0, H', ⟨by first | omega | exact Nat.le_refl _⟩, My.dD⟩
  case rest =>
   clear HC10; (try clear c1); (try clear p2); (try clear c3); (try clear c3b0); (try clear c3b1); (try clear c4); (try clear c4b0); (try clear c4b1); (try clear c6); (try clear c7); (try clear c7b0); (try clear c7b1); (try clear c7b2); (try clear c8); (try clear c8b0); (try clear c8b1); (try clear c8b2); (try clear c9); (try clear c9b0); (try clear c9b1); (try clear c9b2); (try clear c11); (try clear c11b0); (try clear c11b1); obtain ⟨kq, x10_9, rfl, HA, HJ9, ⟨mc9, rfl⟩⟩ := hcut
   cases kq with
   | zero => exact absurd HA.out (by simp [batonref02_Prefix.j0])
   | succ kj9 =>
    have H := HA.out; clear HA; simp only [batonref02_Prefix.j0] at H
    by_cases c12 : x10_9 = true
    ·subst c12
     (have H1 : (if ([108] : List UInt8) = ([] : List UInt8) then (some ((⟨#[]⟩ : ByteArray), false)) else ((batonref02_Name.f kj9 a1).bind fun t132 => (if t132 = true then (if 1 + 1 ≤ 9223372036854775807 then (if 1 + a1.size ≤ 9223372036854775807 then (if (((⟨#[108]⟩ : ByteArray) ++ (⟨#[47]⟩ : ByteArray)) ++ a1).size + 1 ≤ 9223372036854775807 then (some ((((⟨#[108]⟩ : ByteArray) ++ (⟨#[47]⟩ : ByteArray)) ++ a1) ++ (⟨#[47]⟩ : ByteArray), true)) else (none)) else (none)) else (none)) else (some ((⟨#[]⟩ : ByteArray), false))))) = some (r1, r2) := by rw [if_pos rfl] at H; exact H); clear H; have H := H1; clear H1
     by_cases c13 : ([108] : List UInt8) = ([] : List UInt8)
     ·rw [if_pos c13] at H
      have c13b0 : (([108] : List UInt8) == ([] : List UInt8)) = true := beq_iff_eq.mpr c13; have c13b1 : (([108] : List UInt8) != ([] : List UInt8)) = false := bne_eq_false_iff_eq.mpr c13; clear c13; simp only [Option.some.injEq, Prod.mk.injEq] at H; obtain ⟨rfl, rfl⟩ := H
      go_wp2
      go_ret2
      exact ⟨by first | rfl | (simp; done) | (simp [*]; done) | exact absurd (by first | rfl | simp | decide +kernel) c49, My.dD⟩
     ·rw [if_neg c13] at H
      have c13b0 : (([108] : List UInt8) == ([] : List UInt8)) = false := beq_eq_false_iff_ne.mpr c13; have c13b1 : (([108] : List UInt8) != ([] : List UInt8)) = true := bne_iff_ne.mpr c13; replace H := Option.bind_eq_some_iff.mp H; obtain ⟨t132, A140, H⟩ := H; replace H : (if t132 = true then (if 1 + 1 ≤ 9223372036854775807 then (if 1 + a1.size ≤ 9223372036854775807 then (if (((⟨#[108]⟩ : ByteArray) ++ (⟨#[47]⟩ : ByteArray)) ++ a1).size + 1 ≤ 9223372036854775807 then (some ((((⟨#[108]⟩ : ByteArray) ++ (⟨#[47]⟩ : ByteArray)) ++ a1) ++ (⟨#[47]⟩ : ByteArray), true)) else (none)) else (none)) else (none)) else (some ((⟨#[]⟩ : ByteArray), false))) = some (r1, r2) := H; have A14 := Aside0.mk A140; clear A140
      by_cases c15 : t132 = true
      ·subst c15
       (have H1 : (if 1 + 1 ≤ 9223372036854775807 then (if 1 + a1.size ≤ 9223372036854775807 then (if (((⟨#[108]⟩ : ByteArray) ++ (⟨#[47]⟩ : ByteArray)) ++ a1).size + 1 ≤ 9223372036854775807 then (some ((((⟨#[108]⟩ : ByteArray) ++ (⟨#[47]⟩ : ByteArray)) ++ a1) ++ (⟨#[47]⟩ : ByteArray), true)) else (none)) else (none)) else (none)) = some (r1, r2) := by rw [if_pos rfl] at H; exact H); clear H; have H := H1; clear H1
       by_cases c16 : 1 + 1 ≤ 9223372036854775807
       ·rw [if_pos c16] at H
        have c16b0 := eq_true c16; have c16b1 : decide (1 + 1 ≤ 9223372036854775807) = true := decide_eq_true c16; (try have c16b2 : (9223372036854775807 < 1 + 1) = False := eq_false (Nat.not_lt.2 c16))
        by_cases c17 : 1 + a1.size ≤ 9223372036854775807
        ·rw [if_pos c17] at H
         have c17b0 := eq_true c17; have c17b1 : decide (1 + a1.size ≤ 9223372036854775807) = true := decide_eq_true c17; (try have c17b2 : (9223372036854775807 < 1 + a1.size) = False := eq_false (Nat.not_lt.2 c17))
         by_cases c18 : (((⟨#[108]⟩ : ByteArray) ++ (⟨#[47]⟩ : ByteArray)) ++ a1).size + 1 ≤ 9223372036854775807
         ·rw [if_pos c18] at H
          have c18b0 := eq_true c18; have c18b1 : decide ((((⟨#[108]⟩ : ByteArray) ++ (⟨#[47]⟩ : ByteArray)) ++ a1).size + 1 ≤ 9223372036854775807) = true := decide_eq_true c18; (try have c18b2 : (9223372036854775807 < (((⟨#[108]⟩ : ByteArray) ++ (⟨#[47]⟩ : ByteArray)) ++ a1).size + 1) = False := eq_false (Nat.not_lt.2 c18)); (try (have c18b5 := c18b2; simp only [ByteArray.size_append, ByteArray.size_extract, My.size_mk, List.size_toArray, List.length_cons, List.length_nil, Nat.zero_add, Nat.reduceAdd] at c18b5)); (try (have c18b6 : (9223372036854775807 < (((⟨#[108]⟩ : ByteArray) ++ (⟨#[47]⟩ : ByteArray)) ++ a1).size) = False := eq_false (by have := c18; omega); simp only [ByteArray.size_append, ByteArray.size_extract, My.size_mk, List.size_toArray, List.length_cons, List.length_nil, Nat.zero_add, Nat.reduceAdd] at c18b6)); simp only [Option.some.injEq, Prod.mk.injEq] at H; obtain ⟨rfl, rfl⟩ := H
          go_wp2_with (first | (go_at_call 19; (with_reducible refine (batonref02_Name.calls kj9 a1 true _ A14.out).mono ?_); rintro e w' ⟨rfl, ⟨nd, rfl⟩⟩))
          go_ret2
          exact ⟨by first | rfl | (simp; done) | (simp [*]; done) | exact absurd (by first | rfl | simp | decide +kernel) c49, My.dD⟩
         ·exact My.no c18 H
        ·exact My.no c17 H
       ·exact My.no c16 H
      ·replace c15 := Bool.eq_false_iff.mpr c15
       subst c15; (have H1 : (some ((⟨#[]⟩ : ByteArray), false)) = some (r1, r2) := by rw [if_neg (show ¬ (false = true) by decide)] at H; exact H); clear H; have H := H1; clear H1; simp only [Option.some.injEq, Prod.mk.injEq] at H; obtain ⟨rfl, rfl⟩ := H
       go_wp2_with (first | (go_at_call 19; (with_reducible refine (batonref02_Name.calls kj9 a1 false _ A14.out).mono ?_); rintro e w' ⟨rfl, ⟨nd, rfl⟩⟩))
       go_ret2
       exact ⟨by first | rfl | (simp; done) | (simp [*]; done) | exact absurd (by first | rfl | simp | decide +kernel) c49, My.dD⟩
    ·replace c12 := Bool.eq_false_iff.mpr c12
     subst c12; (have H1 : (if a0 = 4 then (if ([115] : List UInt8) = ([] : List UInt8) then (some ((⟨#[]⟩ : ByteArray), false)) else ((batonref02_Name.f kj9 a1).bind fun t133 => (if t133 = true then (if 1 + 1 ≤ 9223372036854775807 then (if 1 + a1.size ≤ 9223372036854775807 then (if (((⟨#[115]⟩ : ByteArray) ++ (⟨#[47]⟩ : ByteArray)) ++ a1).size + 1 ≤ 9223372036854775807 then (some ((((⟨#[115]⟩ : ByteArray) ++ (⟨#[47]⟩ : ByteArray)) ++ a1) ++ (⟨#[47]⟩ : ByteArray), true)) else (none)) else (none)) else (none)) else (some ((⟨#[]⟩ : ByteArray), false))))) else (if a0 = 5 then (if ([101] : List UInt8) = ([] : List UInt8) then (some ((⟨#[]⟩ : ByteArray), false)) else ((batonref02_Name.f kj9 a1).bind fun t134 => (if t134 = true then (if 1 + 1 ≤ 9223372036854775807 then (if 1 + a1.size ≤ 9223372036854775807 then (if (((⟨#[101]⟩ : ByteArray) ++ (⟨#[47]⟩ : ByteArray)) ++ a1).size + 1 ≤ 9223372036854775807 then (some ((((⟨#[101]⟩ : ByteArray) ++ (⟨#[47]⟩ : ByteArray)) ++ a1) ++ (⟨#[47]⟩ : ByteArray), true)) else (none)) else (none)) else (none)) else (some ((⟨#[]⟩ : ByteArray), false))))) else (if a0 = 6 then (if ([112] : List UInt8) = ([] : List UInt8) then (some ((⟨#[]⟩ : ByteArray), false)) else ((batonref02_Name.f kj9 a1).bind fun t135 => (if t135 = true then (if 1 + 1 ≤ 9223372036854775807 then (if 1 + a1.size ≤ 9223372036854775807 then (if (((⟨#[112]⟩ : ByteArray) ++ (⟨#[47]⟩ : ByteArray)) ++ a1).size + 1 ≤ 9223372036854775807 then (some ((((⟨#[112]⟩ : ByteArray) ++ (⟨#[47]⟩ : ByteArray)) ++ a1) ++ (⟨#[47]⟩ : ByteArray), true)) else (none)) else (none)) else (none)) else (some ((⟨#[]⟩ : ByteArray), false))))) else (if a0 = 7 then (batonref02_Prefix.j1 kj9 a1 (⟨#[]⟩ : ByteArray) (a0 == 7)) else (batonref02_Prefix.j1 kj9 a1 (⟨#[]⟩ : ByteArray) (a0 == 8)))))) = some (r1, r2) := by rw [if_neg (show ¬ (false = true) by decide)] at H; exact H); clear H; have H := H1; clear H1
     by_cases c19 : a0 = 4
     ·rw [if_pos c19] at H
      have c19b0 : (a0 == 4) = true := beq_iff_eq.mpr c19; have c19b1 : (a0 != 4) = false := bne_eq_false_iff_eq.mpr c19; clear c19
      by_cases c20 : ([115] : List UInt8) = ([] : List UInt8)
      ·rw [if_pos c20] at H
       have c20b0 : (([115] : List UInt8) == ([] : List UInt8)) = true := beq_iff_eq.mpr c20; have c20b1 : (([115] : List UInt8) != ([] : List UInt8)) = false := bne_eq_false_iff_eq.mpr c20; clear c20; simp only [Option.some.injEq, Prod.mk.injEq] at H; obtain ⟨rfl, rfl⟩ := H
       go_wp2
       go_ret2
       exact ⟨by first | rfl | (simp; done) | (simp [*]; done) | exact absurd (by first | rfl | simp | decide +kernel) c49, My.dD⟩
      ·rw [if_neg c20] at H
       have c20b0 : (([115] : List UInt8) == ([] : List UInt8)) = false := beq_eq_false_iff_ne.mpr c20; have c20b1 : (([115] : List UInt8) != ([] : List UInt8)) = true := bne_iff_ne.mpr c20; replace H := Option.bind_eq_some_iff.mp H; obtain ⟨t133, A210, H⟩ := H; replace H : (if t133 = true then (if 1 + 1 ≤ 9223372036854775807 then (if 1 + a1.size ≤ 9223372036854775807 then (if (((⟨#[115]⟩ : ByteArray) ++ (⟨#[47]⟩ : ByteArray)) ++ a1).size + 1 ≤ 9223372036854775807 then (some ((((⟨#[115]⟩ : ByteArray) ++ (⟨#[47]⟩ : ByteArray)) ++ a1) ++ (⟨#[47]⟩ : ByteArray), true)) else (none)) else (none)) else (none)) else (some ((⟨#[]⟩ : ByteArray), false))) = some (r1, r2) := H; have A21 := Aside0.mk A210; clear A210
       by_cases c22 : t133 = true
       ·subst c22
        (have H1 : (if 1 + 1 ≤ 9223372036854775807 then (if 1 + a1.size ≤ 9223372036854775807 then (if (((⟨#[115]⟩ : ByteArray) ++ (⟨#[47]⟩ : ByteArray)) ++ a1).size + 1 ≤ 9223372036854775807 then (some ((((⟨#[115]⟩ : ByteArray) ++ (⟨#[47]⟩ : ByteArray)) ++ a1) ++ (⟨#[47]⟩ : ByteArray), true)) else (none)) else (none)) else (none)) = some (r1, r2) := by rw [if_pos rfl] at H; exact H); clear H; have H := H1; clear H1
        by_cases c23 : 1 + 1 ≤ 9223372036854775807
        ·rw [if_pos c23] at H
         have c23b0 := eq_true c23; have c23b1 : decide (1 + 1 ≤ 9223372036854775807) = true := decide_eq_true c23; (try have c23b2 : (9223372036854775807 < 1 + 1) = False := eq_false (Nat.not_lt.2 c23))
         by_cases c24 : 1 + a1.size ≤ 9223372036854775807
         ·rw [if_pos c24] at H
          have c24b0 := eq_true c24; have c24b1 : decide (1 + a1.size ≤ 9223372036854775807) = true := decide_eq_true c24; (try have c24b2 : (9223372036854775807 < 1 + a1.size) = False := eq_false (Nat.not_lt.2 c24))
          by_cases c25 : (((⟨#[115]⟩ : ByteArray) ++ (⟨#[47]⟩ : ByteArray)) ++ a1).size + 1 ≤ 9223372036854775807
          ·rw [if_pos c25] at H
           have c25b0 := eq_true c25; have c25b1 : decide ((((⟨#[115]⟩ : ByteArray) ++ (⟨#[47]⟩ : ByteArray)) ++ a1).size + 1 ≤ 9223372036854775807) = true := decide_eq_true c25; (try have c25b2 : (9223372036854775807 < (((⟨#[115]⟩ : ByteArray) ++ (⟨#[47]⟩ : ByteArray)) ++ a1).size + 1) = False := eq_false (Nat.not_lt.2 c25)); (try (have c25b5 := c25b2; simp only [ByteArray.size_append, ByteArray.size_extract, My.size_mk, List.size_toArray, List.length_cons, List.length_nil, Nat.zero_add, Nat.reduceAdd] at c25b5)); (try (have c25b6 : (9223372036854775807 < (((⟨#[115]⟩ : ByteArray) ++ (⟨#[47]⟩ : ByteArray)) ++ a1).size) = False := eq_false (by have := c25; omega); simp only [ByteArray.size_append, ByteArray.size_extract, My.size_mk, List.size_toArray, List.length_cons, List.length_nil, Nat.zero_add, Nat.reduceAdd] at c25b6)); simp only [Option.some.injEq, Prod.mk.injEq] at H; obtain ⟨rfl, rfl⟩ := H
           go_wp2_with (first | (go_at_call 19; (with_reducible refine (batonref02_Name.calls kj9 a1 true _ A21.out).mono ?_); rintro e w' ⟨rfl, ⟨nd, rfl⟩⟩))
           go_ret2
           exact ⟨by first | rfl | (simp; done) | (simp [*]; done) | exact absurd (by first | rfl | simp | decide +kernel) c49, My.dD⟩
          ·exact My.no c25 H
         ·exact My.no c24 H
        ·exact My.no c23 H
       ·replace c22 := Bool.eq_false_iff.mpr c22
        subst c22; (have H1 : (some ((⟨#[]⟩ : ByteArray), false)) = some (r1, r2) := by rw [if_neg (show ¬ (false = true) by decide)] at H; exact H); clear H; have H := H1; clear H1; simp only [Option.some.injEq, Prod.mk.injEq] at H; obtain ⟨rfl, rfl⟩ := H
        go_wp2_with (first | (go_at_call 19; (with_reducible refine (batonref02_Name.calls kj9 a1 false _ A21.out).mono ?_); rintro e w' ⟨rfl, ⟨nd, rfl⟩⟩))
        go_ret2
        exact ⟨by first | rfl | (simp; done) | (simp [*]; done) | exact absurd (by first | rfl | simp | decide +kernel) c49, My.dD⟩
     ·rw [if_neg c19] at H
      have c19b0 : (a0 == 4) = false := beq_eq_false_iff_ne.mpr c19; have c19b1 : (a0 != 4) = true := bne_iff_ne.mpr c19
      by_cases c26 : a0 = 5
      ·rw [if_pos c26] at H
       have c26b0 : (a0 == 5) = true := beq_iff_eq.mpr c26; have c26b1 : (a0 != 5) = false := bne_eq_false_iff_eq.mpr c26; clear c26
       by_cases c27 : ([101] : List UInt8) = ([] : List UInt8)
       ·rw [if_pos c27] at H
        have c27b0 : (([101] : List UInt8) == ([] : List UInt8)) = true := beq_iff_eq.mpr c27; have c27b1 : (([101] : List UInt8) != ([] : List UInt8)) = false := bne_eq_false_iff_eq.mpr c27; clear c27; simp only [Option.some.injEq, Prod.mk.injEq] at H; obtain ⟨rfl, rfl⟩ := H
        go_wp2
        go_ret2
        exact ⟨by first | rfl | (simp; done) | (simp [*]; done) | exact absurd (by first | rfl | simp | decide +kernel) c49, My.dD⟩
       ·rw [if_neg c27] at H
        have c27b0 : (([101] : List UInt8) == ([] : List UInt8)) = false := beq_eq_false_iff_ne.mpr c27; have c27b1 : (([101] : List UInt8) != ([] : List UInt8)) = true := bne_iff_ne.mpr c27; replace H := Option.bind_eq_some_iff.mp H; obtain ⟨t134, A280, H⟩ := H; replace H : (if t134 = true then (if 1 + 1 ≤ 9223372036854775807 then (if 1 + a1.size ≤ 9223372036854775807 then (if (((⟨#[101]⟩ : ByteArray) ++ (⟨#[47]⟩ : ByteArray)) ++ a1).size + 1 ≤ 9223372036854775807 then (some ((((⟨#[101]⟩ : ByteArray) ++ (⟨#[47]⟩ : ByteArray)) ++ a1) ++ (⟨#[47]⟩ : ByteArray), true)) else (none)) else (none)) else (none)) else (some ((⟨#[]⟩ : ByteArray), false))) = some (r1, r2) := H; have A28 := Aside0.mk A280; clear A280
        by_cases c29 : t134 = true
        ·subst c29
         (have H1 : (if 1 + 1 ≤ 9223372036854775807 then (if 1 + a1.size ≤ 9223372036854775807 then (if (((⟨#[101]⟩ : ByteArray) ++ (⟨#[47]⟩ : ByteArray)) ++ a1).size + 1 ≤ 9223372036854775807 then (some ((((⟨#[101]⟩ : ByteArray) ++ (⟨#[47]⟩ : ByteArray)) ++ a1) ++ (⟨#[47]⟩ : ByteArray), true)) else (none)) else (none)) else (none)) = some (r1, r2) := by rw [if_pos rfl] at H; exact H); clear H; have H := H1; clear H1
         by_cases c30 : 1 + 1 ≤ 9223372036854775807
         ·rw [if_pos c30] at H
          have c30b0 := eq_true c30; have c30b1 : decide (1 + 1 ≤ 9223372036854775807) = true := decide_eq_true c30; (try have c30b2 : (9223372036854775807 < 1 + 1) = False := eq_false (Nat.not_lt.2 c30))
          by_cases c31 : 1 + a1.size ≤ 9223372036854775807
          ·rw [if_pos c31] at H
           have c31b0 := eq_true c31; have c31b1 : decide (1 + a1.size ≤ 9223372036854775807) = true := decide_eq_true c31; (try have c31b2 : (9223372036854775807 < 1 + a1.size) = False := eq_false (Nat.not_lt.2 c31))
           by_cases c32 : (((⟨#[101]⟩ : ByteArray) ++ (⟨#[47]⟩ : ByteArray)) ++ a1).size + 1 ≤ 9223372036854775807
           ·rw [if_pos c32] at H
            have c32b0 := eq_true c32; have c32b1 : decide ((((⟨#[101]⟩ : ByteArray) ++ (⟨#[47]⟩ : ByteArray)) ++ a1).size + 1 ≤ 9223372036854775807) = true := decide_eq_true c32; (try have c32b2 : (9223372036854775807 < (((⟨#[101]⟩ : ByteArray) ++ (⟨#[47]⟩ : ByteArray)) ++ a1).size + 1) = False := eq_false (Nat.not_lt.2 c32)); (try (have c32b5 := c32b2; simp only [ByteArray.size_append, ByteArray.size_extract, My.size_mk, List.size_toArray, List.length_cons, List.length_nil, Nat.zero_add, Nat.reduceAdd] at c32b5)); (try (have c32b6 : (9223372036854775807 < (((⟨#[101]⟩ : ByteArray) ++ (⟨#[47]⟩ : ByteArray)) ++ a1).size) = False := eq_false (by have := c32; omega); simp only [ByteArray.size_append, ByteArray.size_extract, My.size_mk, List.size_toArray, List.length_cons, List.length_nil, Nat.zero_add, Nat.reduceAdd] at c32b6)); simp only [Option.some.injEq, Prod.mk.injEq] at H; obtain ⟨rfl, rfl⟩ := H
            go_wp2_with (first | (go_at_call 19; (with_reducible refine (batonref02_Name.calls kj9 a1 true _ A28.out).mono ?_); rintro e w' ⟨rfl, ⟨nd, rfl⟩⟩))
            go_ret2
            exact ⟨by first | rfl | (simp; done) | (simp [*]; done) | exact absurd (by first | rfl | simp | decide +kernel) c49, My.dD⟩
           ·exact My.no c32 H
          ·exact My.no c31 H
         ·exact My.no c30 H
        ·replace c29 := Bool.eq_false_iff.mpr c29
         subst c29; (have H1 : (some ((⟨#[]⟩ : ByteArray), false)) = some (r1, r2) := by rw [if_neg (show ¬ (false = true) by decide)] at H; exact H); clear H; have H := H1; clear H1; simp only [Option.some.injEq, Prod.mk.injEq] at H; obtain ⟨rfl, rfl⟩ := H
         go_wp2_with (first | (go_at_call 19; (with_reducible refine (batonref02_Name.calls kj9 a1 false _ A28.out).mono ?_); rintro e w' ⟨rfl, ⟨nd, rfl⟩⟩))
         go_ret2
         exact ⟨by first | rfl | (simp; done) | (simp [*]; done) | exact absurd (by first | rfl | simp | decide +kernel) c49, My.dD⟩
      ·rw [if_neg c26] at H
       have c26b0 : (a0 == 5) = false := beq_eq_false_iff_ne.mpr c26; have c26b1 : (a0 != 5) = true := bne_iff_ne.mpr c26
       by_cases c33 : a0 = 6
       ·rw [if_pos c33] at H
        have c33b0 : (a0 == 6) = true := beq_iff_eq.mpr c33; have c33b1 : (a0 != 6) = false := bne_eq_false_iff_eq.mpr c33; clear c33
        by_cases c34 : ([112] : List UInt8) = ([] : List UInt8)
        ·rw [if_pos c34] at H
         have c34b0 : (([112] : List UInt8) == ([] : List UInt8)) = true := beq_iff_eq.mpr c34; have c34b1 : (([112] : List UInt8) != ([] : List UInt8)) = false := bne_eq_false_iff_eq.mpr c34; clear c34; simp only [Option.some.injEq, Prod.mk.injEq] at H; obtain ⟨rfl, rfl⟩ := H
         go_wp2
         go_ret2
         exact ⟨by first | rfl | (simp; done) | (simp [*]; done) | exact absurd (by first | rfl | simp | decide +kernel) c49, My.dD⟩
        ·rw [if_neg c34] at H
         have c34b0 : (([112] : List UInt8) == ([] : List UInt8)) = false := beq_eq_false_iff_ne.mpr c34; have c34b1 : (([112] : List UInt8) != ([] : List UInt8)) = true := bne_iff_ne.mpr c34; replace H := Option.bind_eq_some_iff.mp H; obtain ⟨t135, A350, H⟩ := H; replace H : (if t135 = true then (if 1 + 1 ≤ 9223372036854775807 then (if 1 + a1.size ≤ 9223372036854775807 then (if (((⟨#[112]⟩ : ByteArray) ++ (⟨#[47]⟩ : ByteArray)) ++ a1).size + 1 ≤ 9223372036854775807 then (some ((((⟨#[112]⟩ : ByteArray) ++ (⟨#[47]⟩ : ByteArray)) ++ a1) ++ (⟨#[47]⟩ : ByteArray), true)) else (none)) else (none)) else (none)) else (some ((⟨#[]⟩ : ByteArray), false))) = some (r1, r2) := H; have A35 := Aside0.mk A350; clear A350
         by_cases c36 : t135 = true
         ·subst c36
          (have H1 : (if 1 + 1 ≤ 9223372036854775807 then (if 1 + a1.size ≤ 9223372036854775807 then (if (((⟨#[112]⟩ : ByteArray) ++ (⟨#[47]⟩ : ByteArray)) ++ a1).size + 1 ≤ 9223372036854775807 then (some ((((⟨#[112]⟩ : ByteArray) ++ (⟨#[47]⟩ : ByteArray)) ++ a1) ++ (⟨#[47]⟩ : ByteArray), true)) else (none)) else (none)) else (none)) = some (r1, r2) := by rw [if_pos rfl] at H; exact H); clear H; have H := H1; clear H1
          by_cases c37 : 1 + 1 ≤ 9223372036854775807
          ·rw [if_pos c37] at H
           have c37b0 := eq_true c37; have c37b1 : decide (1 + 1 ≤ 9223372036854775807) = true := decide_eq_true c37; (try have c37b2 : (9223372036854775807 < 1 + 1) = False := eq_false (Nat.not_lt.2 c37))
           by_cases c38 : 1 + a1.size ≤ 9223372036854775807
           ·rw [if_pos c38] at H
            have c38b0 := eq_true c38; have c38b1 : decide (1 + a1.size ≤ 9223372036854775807) = true := decide_eq_true c38; (try have c38b2 : (9223372036854775807 < 1 + a1.size) = False := eq_false (Nat.not_lt.2 c38))
            by_cases c39 : (((⟨#[112]⟩ : ByteArray) ++ (⟨#[47]⟩ : ByteArray)) ++ a1).size + 1 ≤ 9223372036854775807
            ·rw [if_pos c39] at H
             have c39b0 := eq_true c39; have c39b1 : decide ((((⟨#[112]⟩ : ByteArray) ++ (⟨#[47]⟩ : ByteArray)) ++ a1).size + 1 ≤ 9223372036854775807) = true := decide_eq_true c39; (try have c39b2 : (9223372036854775807 < (((⟨#[112]⟩ : ByteArray) ++ (⟨#[47]⟩ : ByteArray)) ++ a1).size + 1) = False := eq_false (Nat.not_lt.2 c39)); (try (have c39b5 := c39b2; simp only [ByteArray.size_append, ByteArray.size_extract, My.size_mk, List.size_toArray, List.length_cons, List.length_nil, Nat.zero_add, Nat.reduceAdd] at c39b5)); (try (have c39b6 : (9223372036854775807 < (((⟨#[112]⟩ : ByteArray) ++ (⟨#[47]⟩ : ByteArray)) ++ a1).size) = False := eq_false (by have := c39; omega); simp only [ByteArray.size_append, ByteArray.size_extract, My.size_mk, List.size_toArray, List.length_cons, List.length_nil, Nat.zero_add, Nat.reduceAdd] at c39b6)); simp only [Option.some.injEq, Prod.mk.injEq] at H; obtain ⟨rfl, rfl⟩ := H
             go_wp2_with (first | (go_at_call 19; (with_reducible refine (batonref02_Name.calls kj9 a1 true _ A35.out).mono ?_); rintro e w' ⟨rfl, ⟨nd, rfl⟩⟩))
             go_ret2
             exact ⟨by first | rfl | (simp; done) | (simp [*]; done) | exact absurd (by first | rfl | simp | decide +kernel) c49, My.dD⟩
            ·exact My.no c39 H
           ·exact My.no c38 H
          ·exact My.no c37 H
         ·replace c36 := Bool.eq_false_iff.mpr c36
          subst c36; (have H1 : (some ((⟨#[]⟩ : ByteArray), false)) = some (r1, r2) := by rw [if_neg (show ¬ (false = true) by decide)] at H; exact H); clear H; have H := H1; clear H1; simp only [Option.some.injEq, Prod.mk.injEq] at H; obtain ⟨rfl, rfl⟩ := H
          go_wp2_with (first | (go_at_call 19; (with_reducible refine (batonref02_Name.calls kj9 a1 false _ A35.out).mono ?_); rintro e w' ⟨rfl, ⟨nd, rfl⟩⟩))
          go_ret2
          exact ⟨by first | rfl | (simp; done) | (simp [*]; done) | exact absurd (by first | rfl | simp | decide +kernel) c49, My.dD⟩
       ·rw [if_neg c33] at H
        have c33b0 : (a0 == 6) = false := beq_eq_false_iff_ne.mpr c33; have c33b1 : (a0 != 6) = true := bne_iff_ne.mpr c33; have HC40 := Aside0.mk H; clear H
        go_upto_if 19 with (fail)
        go_cut [19] (fun v19 wc => ∃ (kq : Nat) (x19_39 : Bool), v19 = .bool x19_39 ∧ Aside0 (batonref02_Prefix.j1 kq a1 (⟨#[]⟩ : ByteArray) x19_39 = some (r1, r2)) ∧ Aside0 (kq ≤ kj9) ∧ Drawn0 w wc)
        case first =>
         have H := HC40.out; clear HC40
         by_cases c41 : a0 = 7
         ·rw [if_pos c41] at H
          have c41b0 : (a0 == 7) = true := beq_iff_eq.mpr c41; have c41b1 : (a0 != 7) = false := bne_eq_false_iff_eq.mpr c41; clear c41; (first | rw [c41b0] | (simp only [i64_w, i32_w]; rw [c41b0]) | skip); have H' := Aside0.mk H; clear H
          go_wp2
          go_meet
          case rel => exact ⟨_, ((a0 == 7)), My.q0, H', ⟨by have := HJ9.out; first | omega | exact Nat.le_refl _⟩, My.dD⟩
         ·rw [if_neg c41] at H
          have c41b0 : (a0 == 7) = false := beq_eq_false_iff_ne.mpr c41; have c41b1 : (a0 != 7) = true := bne_iff_ne.mpr c41; (first | rw [c41b0] | (simp only [i64_w, i32_w]; rw [c41b0]) | skip); have H' := Aside0.mk H; clear H
          go_wp2
          go_meet
          case rel => exact ⟨_, ((a0 == 8)), My.q0, H', ⟨by have := HJ9.out; first | omega | exact Nat.le_refl _⟩, My.dD⟩
        case rest =>
         clear HC40; (try clear c1); (try clear c2); (try clear p2); (try clear c3); (try clear c3b0); (try clear c3b1); (try clear c4); (try clear c4b0); (try clear c4b1); (try clear c6); (try clear c7); (try clear c7b0); (try clear c7b1); (try clear c7b2); (try clear c8); (try clear c8b0); (try clear c8b1); (try clear c8b2); (try clear c9); (try clear c9b0); (try clear c9b1); (try clear c9b2); (try clear c11); (try clear c11b0); (try clear c11b1); (try clear c12); (try clear c13); (try clear c13b0); (try clear c13b1); (try clear c15); (try clear c16); (try clear c16b0); (try clear c16b1); (try clear c16b2); (try clear c17); (try clear c17b0); (try clear c17b1); (try clear c17b2); (try clear c18); (try clear c18b0); (try clear c18b1); (try clear c18b2); (try clear c19); (try clear c19b0); (try clear c19b1); (try clear c20); (try clear c20b0); (try clear c20b1); (try clear c22); (try clear c23); (try clear c23b0); (try clear c23b1); (try clear c23b2); (try clear c24); (try clear c24b0); (try clear c24b1); (try clear c24b2); (try clear c25); (try clear c25b0); (try clear c25b1); (try clear c25b2); (try clear c26); (try clear c26b0); (try clear c26b1); (try clear c27); (try clear c27b0); (try clear c27b1); (try clear c29); (try clear c30); (try clear c30b0); (try clear c30b1); (try clear c30b2); (try clear c31); (try clear c31b0); (try clear c31b1); (try clear c31b2); (try clear c32); (try clear c32b0); (try clear c32b1); (try clear c32b2); (try clear c33); (try clear c33b0); (try clear c33b1); (try clear c34); (try clear c34b0); (try clear c34b1); (try clear c36); (try clear c37); (try clear c37b0); (try clear c37b1); (try clear c37b2); (try clear c38); (try clear c38b0); (try clear c38b1); (try clear c38b2); (try clear c39); (try clear c39b0); (try clear c39b1); (try clear c39b2); (try clear c41); (try clear c41b0); (try clear c41b1); (try clear p2); obtain ⟨kq, x19_39, rfl, HA, HJ39, ⟨mc39, rfl⟩⟩ := hcut
         cases kq with
         | zero => exact absurd HA.out (by simp [batonref02_Prefix.j1])
         | succ kj39 =>
          have H := HA.out; clear HA; simp only [batonref02_Prefix.j1] at H
          by_cases c42 : x19_39 = true
          ·subst c42
           (have H1 : (if ([113] : List UInt8) = ([] : List UInt8) then (some ((⟨#[]⟩ : ByteArray), false)) else ((batonref02_Name.f kj39 a1).bind fun t136 => (if t136 = true then (if 1 + 1 ≤ 9223372036854775807 then (if 1 + a1.size ≤ 9223372036854775807 then (if (((⟨#[113]⟩ : ByteArray) ++ (⟨#[47]⟩ : ByteArray)) ++ a1).size + 1 ≤ 9223372036854775807 then (some ((((⟨#[113]⟩ : ByteArray) ++ (⟨#[47]⟩ : ByteArray)) ++ a1) ++ (⟨#[47]⟩ : ByteArray), true)) else (none)) else (none)) else (none)) else (some ((⟨#[]⟩ : ByteArray), false))))) = some (r1, r2) := by rw [if_pos rfl] at H; exact H); clear H; have H := H1; clear H1
           by_cases c43 : ([113] : List UInt8) = ([] : List UInt8)
           ·rw [if_pos c43] at H
            have c43b0 : (([113] : List UInt8) == ([] : List UInt8)) = true := beq_iff_eq.mpr c43; have c43b1 : (([113] : List UInt8) != ([] : List UInt8)) = false := bne_eq_false_iff_eq.mpr c43; clear c43; simp only [Option.some.injEq, Prod.mk.injEq] at H; obtain ⟨rfl, rfl⟩ := H
            go_wp2
            go_ret2
            exact ⟨by first | rfl | (simp; done) | (simp [*]; done) | exact absurd (by first | rfl | simp | decide +kernel) c49, My.dD⟩
           ·rw [if_neg c43] at H
            have c43b0 : (([113] : List UInt8) == ([] : List UInt8)) = false := beq_eq_false_iff_ne.mpr c43; have c43b1 : (([113] : List UInt8) != ([] : List UInt8)) = true := bne_iff_ne.mpr c43; replace H := Option.bind_eq_some_iff.mp H; obtain ⟨t136, A440, H⟩ := H; replace H : (if t136 = true then (if 1 + 1 ≤ 9223372036854775807 then (if 1 + a1.size ≤ 9223372036854775807 then (if (((⟨#[113]⟩ : ByteArray) ++ (⟨#[47]⟩ : ByteArray)) ++ a1).size + 1 ≤ 9223372036854775807 then (some ((((⟨#[113]⟩ : ByteArray) ++ (⟨#[47]⟩ : ByteArray)) ++ a1) ++ (⟨#[47]⟩ : ByteArray), true)) else (none)) else (none)) else (none)) else (some ((⟨#[]⟩ : ByteArray), false))) = some (r1, r2) := H; have A44 := Aside0.mk A440; clear A440
            by_cases c45 : t136 = true
            ·subst c45
             (have H1 : (if 1 + 1 ≤ 9223372036854775807 then (if 1 + a1.size ≤ 9223372036854775807 then (if (((⟨#[113]⟩ : ByteArray) ++ (⟨#[47]⟩ : ByteArray)) ++ a1).size + 1 ≤ 9223372036854775807 then (some ((((⟨#[113]⟩ : ByteArray) ++ (⟨#[47]⟩ : ByteArray)) ++ a1) ++ (⟨#[47]⟩ : ByteArray), true)) else (none)) else (none)) else (none)) = some (r1, r2) := by rw [if_pos rfl] at H; exact H); clear H; have H := H1; clear H1
             by_cases c46 : 1 + 1 ≤ 9223372036854775807
             ·rw [if_pos c46] at H
              have c46b0 := eq_true c46; have c46b1 : decide (1 + 1 ≤ 9223372036854775807) = true := decide_eq_true c46; (try have c46b2 : (9223372036854775807 < 1 + 1) = False := eq_false (Nat.not_lt.2 c46))
              by_cases c47 : 1 + a1.size ≤ 9223372036854775807
              ·rw [if_pos c47] at H
               have c47b0 := eq_true c47; have c47b1 : decide (1 + a1.size ≤ 9223372036854775807) = true := decide_eq_true c47; (try have c47b2 : (9223372036854775807 < 1 + a1.size) = False := eq_false (Nat.not_lt.2 c47))
               by_cases c48 : (((⟨#[113]⟩ : ByteArray) ++ (⟨#[47]⟩ : ByteArray)) ++ a1).size + 1 ≤ 9223372036854775807
               ·rw [if_pos c48] at H
                have c48b0 := eq_true c48; have c48b1 : decide ((((⟨#[113]⟩ : ByteArray) ++ (⟨#[47]⟩ : ByteArray)) ++ a1).size + 1 ≤ 9223372036854775807) = true := decide_eq_true c48; (try have c48b2 : (9223372036854775807 < (((⟨#[113]⟩ : ByteArray) ++ (⟨#[47]⟩ : ByteArray)) ++ a1).size + 1) = False := eq_false (Nat.not_lt.2 c48)); (try (have c48b5 := c48b2; simp only [ByteArray.size_append, ByteArray.size_extract, My.size_mk, List.size_toArray, List.length_cons, List.length_nil, Nat.zero_add, Nat.reduceAdd] at c48b5)); (try (have c48b6 : (9223372036854775807 < (((⟨#[113]⟩ : ByteArray) ++ (⟨#[47]⟩ : ByteArray)) ++ a1).size) = False := eq_false (by have := c48; omega); simp only [ByteArray.size_append, ByteArray.size_extract, My.size_mk, List.size_toArray, List.length_cons, List.length_nil, Nat.zero_add, Nat.reduceAdd] at c48b6)); simp only [Option.some.injEq, Prod.mk.injEq] at H; obtain ⟨rfl, rfl⟩ := H
                go_wp2_with (first | (go_at_call 19; (with_reducible refine (batonref02_Name.calls kj39 a1 true _ A44.out).mono ?_); rintro e w' ⟨rfl, ⟨nd, rfl⟩⟩))
                go_ret2
                exact ⟨by first | rfl | (simp; done) | (simp [*]; done) | exact absurd (by first | rfl | simp | decide +kernel) c49, My.dD⟩
               ·exact My.no c48 H
              ·exact My.no c47 H
             ·exact My.no c46 H
            ·replace c45 := Bool.eq_false_iff.mpr c45
             subst c45; (have H1 : (some ((⟨#[]⟩ : ByteArray), false)) = some (r1, r2) := by rw [if_neg (show ¬ (false = true) by decide)] at H; exact H); clear H; have H := H1; clear H1; simp only [Option.some.injEq, Prod.mk.injEq] at H; obtain ⟨rfl, rfl⟩ := H
             go_wp2_with (first | (go_at_call 19; (with_reducible refine (batonref02_Name.calls kj39 a1 false _ A44.out).mono ?_); rintro e w' ⟨rfl, ⟨nd, rfl⟩⟩))
             go_ret2
             exact ⟨by first | rfl | (simp; done) | (simp [*]; done) | exact absurd (by first | rfl | simp | decide +kernel) c49, My.dD⟩
          ·replace c42 := Bool.eq_false_iff.mpr c42
           subst c42; (have H1 : (if (⟨#[]⟩ : ByteArray).toList = ([] : List UInt8) then (some ((⟨#[]⟩ : ByteArray), false)) else ((batonref02_Name.f kj39 a1).bind fun t137 => (if t137 = true then (if (⟨#[]⟩ : ByteArray).size + 1 ≤ 9223372036854775807 then (if ((⟨#[]⟩ : ByteArray) ++ (⟨#[47]⟩ : ByteArray)).size + a1.size ≤ 9223372036854775807 then (if (((⟨#[]⟩ : ByteArray) ++ (⟨#[47]⟩ : ByteArray)) ++ a1).size + 1 ≤ 9223372036854775807 then (some ((((⟨#[]⟩ : ByteArray) ++ (⟨#[47]⟩ : ByteArray)) ++ a1) ++ (⟨#[47]⟩ : ByteArray), true)) else (none)) else (none)) else (none)) else (some ((⟨#[]⟩ : ByteArray), false))))) = some (r1, r2) := by rw [if_neg (show ¬ (false = true) by decide)] at H; exact H); clear H; have H := H1; clear H1
           by_cases c49 : (⟨#[]⟩ : ByteArray).toList = ([] : List UInt8)
           ·rw [if_pos c49] at H
            have c49b0 : ((⟨#[]⟩ : ByteArray).toList == ([] : List UInt8)) = true := beq_iff_eq.mpr c49; have c49b1 : ((⟨#[]⟩ : ByteArray).toList != ([] : List UInt8)) = false := bne_eq_false_iff_eq.mpr c49; clear c49; simp only [Option.some.injEq, Prod.mk.injEq] at H; obtain ⟨rfl, rfl⟩ := H
            go_wp2
            go_ret2
            exact ⟨by first | rfl | (simp; done) | (simp [*]; done) | exact absurd (by first | rfl | simp | decide +kernel) c49, My.dD⟩
           ·rw [if_neg c49] at H
            have c49b0 : ((⟨#[]⟩ : ByteArray).toList == ([] : List UInt8)) = false := beq_eq_false_iff_ne.mpr c49; have c49b1 : ((⟨#[]⟩ : ByteArray).toList != ([] : List UInt8)) = true := bne_iff_ne.mpr c49; replace H := Option.bind_eq_some_iff.mp H; obtain ⟨t137, A500, H⟩ := H; replace H : (if t137 = true then (if (⟨#[]⟩ : ByteArray).size + 1 ≤ 9223372036854775807 then (if ((⟨#[]⟩ : ByteArray) ++ (⟨#[47]⟩ : ByteArray)).size + a1.size ≤ 9223372036854775807 then (if (((⟨#[]⟩ : ByteArray) ++ (⟨#[47]⟩ : ByteArray)) ++ a1).size + 1 ≤ 9223372036854775807 then (some ((((⟨#[]⟩ : ByteArray) ++ (⟨#[47]⟩ : ByteArray)) ++ a1) ++ (⟨#[47]⟩ : ByteArray), true)) else (none)) else (none)) else (none)) else (some ((⟨#[]⟩ : ByteArray), false))) = some (r1, r2) := H; have A50 := Aside0.mk A500; clear A500
            by_cases c51 : t137 = true
            ·subst c51
             (have H1 : (if (⟨#[]⟩ : ByteArray).size + 1 ≤ 9223372036854775807 then (if ((⟨#[]⟩ : ByteArray) ++ (⟨#[47]⟩ : ByteArray)).size + a1.size ≤ 9223372036854775807 then (if (((⟨#[]⟩ : ByteArray) ++ (⟨#[47]⟩ : ByteArray)) ++ a1).size + 1 ≤ 9223372036854775807 then (some ((((⟨#[]⟩ : ByteArray) ++ (⟨#[47]⟩ : ByteArray)) ++ a1) ++ (⟨#[47]⟩ : ByteArray), true)) else (none)) else (none)) else (none)) = some (r1, r2) := by rw [if_pos rfl] at H; exact H); clear H; have H := H1; clear H1
             by_cases c52 : (⟨#[]⟩ : ByteArray).size + 1 ≤ 9223372036854775807
             ·rw [if_pos c52] at H
              have c52b0 := eq_true c52; have c52b1 : decide ((⟨#[]⟩ : ByteArray).size + 1 ≤ 9223372036854775807) = true := decide_eq_true c52; (try have c52b2 : (9223372036854775807 < (⟨#[]⟩ : ByteArray).size + 1) = False := eq_false (Nat.not_lt.2 c52))
              by_cases c53 : ((⟨#[]⟩ : ByteArray) ++ (⟨#[47]⟩ : ByteArray)).size + a1.size ≤ 9223372036854775807
              ·rw [if_pos c53] at H
               have c53b0 := eq_true c53; have c53b1 : decide (((⟨#[]⟩ : ByteArray) ++ (⟨#[47]⟩ : ByteArray)).size + a1.size ≤ 9223372036854775807) = true := decide_eq_true c53; (try have c53b2 : (9223372036854775807 < ((⟨#[]⟩ : ByteArray) ++ (⟨#[47]⟩ : ByteArray)).size + a1.size) = False := eq_false (Nat.not_lt.2 c53)); (try (have c53b5 := c53b2; simp only [ByteArray.size_append, ByteArray.size_extract, My.size_mk, List.size_toArray, List.length_cons, List.length_nil, Nat.zero_add, Nat.reduceAdd] at c53b5)); (try (have c53b6 : (9223372036854775807 < ((⟨#[]⟩ : ByteArray) ++ (⟨#[47]⟩ : ByteArray)).size) = False := eq_false (by have := c53; omega); simp only [ByteArray.size_append, ByteArray.size_extract, My.size_mk, List.size_toArray, List.length_cons, List.length_nil, Nat.zero_add, Nat.reduceAdd] at c53b6))
               by_cases c54 : (((⟨#[]⟩ : ByteArray) ++ (⟨#[47]⟩ : ByteArray)) ++ a1).size + 1 ≤ 9223372036854775807
               ·rw [if_pos c54] at H
                have c54b0 := eq_true c54; have c54b1 : decide ((((⟨#[]⟩ : ByteArray) ++ (⟨#[47]⟩ : ByteArray)) ++ a1).size + 1 ≤ 9223372036854775807) = true := decide_eq_true c54; (try have c54b2 : (9223372036854775807 < (((⟨#[]⟩ : ByteArray) ++ (⟨#[47]⟩ : ByteArray)) ++ a1).size + 1) = False := eq_false (Nat.not_lt.2 c54)); (try (have c54b5 := c54b2; simp only [ByteArray.size_append, ByteArray.size_extract, My.size_mk, List.size_toArray, List.length_cons, List.length_nil, Nat.zero_add, Nat.reduceAdd] at c54b5)); (try (have c54b6 : (9223372036854775807 < (((⟨#[]⟩ : ByteArray) ++ (⟨#[47]⟩ : ByteArray)) ++ a1).size) = False := eq_false (by have := c54; omega); simp only [ByteArray.size_append, ByteArray.size_extract, My.size_mk, List.size_toArray, List.length_cons, List.length_nil, Nat.zero_add, Nat.reduceAdd] at c54b6)); simp only [Option.some.injEq, Prod.mk.injEq] at H; obtain ⟨rfl, rfl⟩ := H
                go_wp2_with (first | (go_at_call 19; (with_reducible refine (batonref02_Name.calls kj39 a1 true _ A50.out).mono ?_); rintro e w' ⟨rfl, ⟨nd, rfl⟩⟩))
                go_ret2
                exact ⟨by first | rfl | (simp; done) | (simp [*]; done) | exact absurd (by first | rfl | simp | decide +kernel) c49, My.dD⟩
               ·exact My.no c54 H
              ·exact My.no c53 H
             ·exact My.no c52 H
            ·replace c51 := Bool.eq_false_iff.mpr c51
             subst c51; (have H1 : (some ((⟨#[]⟩ : ByteArray), false)) = some (r1, r2) := by rw [if_neg (show ¬ (false = true) by decide)] at H; exact H); clear H; have H := H1; clear H1; simp only [Option.some.injEq, Prod.mk.injEq] at H; obtain ⟨rfl, rfl⟩ := H
             go_wp2_with (first | (go_at_call 19; (with_reducible refine (batonref02_Name.calls kj39 a1 false _ A50.out).mono ?_); rintro e w' ⟨rfl, ⟨nd, rfl⟩⟩))
             go_ret2
             exact ⟨by first | rfl | (simp; done) | (simp [*]; done) | exact absurd (by first | rfl | simp | decide +kernel) c49, My.dD⟩

/-! ### batonref02_Ticket: function 13 -/
mutual
def batonref02_Ticket.j0 : Nat → Int → ByteArray → Bool → Option (ByteArray × Bool)
  | 0, _, _, _ => none
  | k + 1, x2, x8, x28 => if x28 = true then (some ((⟨#[]⟩ : ByteArray), false)) else (batonref02_Ticket.l0 k x2 x8 (⟨#[48, 49, 50, 51, 52, 53, 54, 55, 56, 57, 97, 98, 99, 100, 101, 102]⟩ : ByteArray) (⟨#[]⟩ : ByteArray) 0)
def batonref02_Ticket.l0 : Nat → Int → ByteArray → ByteArray → ByteArray → Int → Option (ByteArray × Bool)
  | 0, _, _, _, _, _ => none
  | k + 1, x2, x8, x10, x11, x12 => if x12 < 10 then (if 0 ≤ (Int.tmod x2 16) then (if (Int.tmod x2 16) ≤ (wrap64 ((Int.tmod x2 16) + 1)) then (if (wrap64 ((Int.tmod x2 16) + 1)) ≤ (x10.size : Int) then (if (x10.extract ((Int.tmod x2 16) : Int).toNat ((wrap64 ((Int.tmod x2 16) + 1)) : Int).toNat).size + x11.size ≤ 9223372036854775807 then (batonref02_Ticket.l0 k (wrap64 (Int.tdiv x2 16)) x8 x10 ((x10.extract ((Int.tmod x2 16) : Int).toNat ((wrap64 ((Int.tmod x2 16) + 1)) : Int).toNat) ++ x11) (wrap64 (x12 + 1))) else (none)) else (none)) else (none)) else (none)) else (if x8.size + x11.size ≤ 9223372036854775807 then (some (x8 ++ x11, true)) else (none))
end
def batonref02_Ticket.f (k : Nat) (a0 : Int) (a1 : ByteArray) (a2 : Int) : Option (ByteArray × Bool) := (batonref02_Prefix.f k a0 a1).bind fun bt138 => (if bt138.2 = true then (if a2 < 0 then (batonref02_Ticket.j0 k a2 bt138.1 true) else (batonref02_Ticket.j0 k a2 bt138.1 (decide (a2 > 1099511627775)))) else (batonref02_Ticket.j0 k a2 bt138.1 true))
theorem batonref02_Ticket.mono_l : ∀ k, (∀ y0 y1 y2, LeO (batonref02_Ticket.j0 k y0 y1 y2) (batonref02_Ticket.j0 (k + 1) y0 y1 y2)) ∧ (∀ y0 y1 y2 y3 y4, LeO (batonref02_Ticket.l0 k y0 y1 y2 y3 y4) (batonref02_Ticket.l0 (k + 1) y0 y1 y2 y3 y4))
  | 0 => ⟨fun _ _ _ r h => by simp [batonref02_Ticket.j0] at h, fun _ _ _ _ _ r h => by simp [batonref02_Ticket.l0] at h⟩
  | k + 1 => by
    obtain ⟨ih0, ih1⟩ := batonref02_Ticket.mono_l k
    refine ⟨?_, ?_⟩
    · intro y0 y1 y2
      unfold batonref02_Ticket.j0
      have ic0 := @batonref02_Prefix.mono; exact My.mono_
    · intro y0 y1 y2 y3 y4
      unfold batonref02_Ticket.l0
      have ic0 := @batonref02_Prefix.mono; exact My.mono_
theorem batonref02_Ticket.mono : ∀ a0 a1 a2 k, LeO (batonref02_Ticket.f k a0 a1 a2) (batonref02_Ticket.f (k + 1) a0 a1 a2) := by
  intro a0 a1 a2 k
  obtain ⟨ih0, ih1⟩ := batonref02_Ticket.mono_l k
  unfold batonref02_Ticket.f
  have ic0 := @batonref02_Prefix.mono; exact My.mono_
set_option maxHeartbeats 8000000 in
set_option maxRecDepth 100000 in
theorem batonref02_Ticket.calls (k : Nat) (a0 : Int) (a1 : ByteArray) (a2 : Int) (r1 : ByteArray) (r2 : Bool) (w : World) (h : batonref02_Ticket.f k a0 a1 a2 = some (r1, r2)) :
    Calls Try.prog 13 #[.int .i64 a0, .string a1, .int .i64 a2] w fun e w' => e = .returned (.tuple #[.string r1, .bool r2]) ∧ Drawn0 w w' := by
  have H : ((batonref02_Prefix.f k a0 a1).bind fun bt138 => (if bt138.2 = true then (if a2 < 0 then (batonref02_Ticket.j0 k a2 bt138.1 true) else (batonref02_Ticket.j0 k a2 bt138.1 (decide (a2 > 1099511627775)))) else (batonref02_Ticket.j0 k a2 bt138.1 true))) = some (r1, r2) := h; clear h; replace H := Option.bind_eq_some_iff.mp H; obtain ⟨⟨t138, t139⟩, A40, H⟩ := H; replace H : (if t139 = true then (if a2 < 0 then (batonref02_Ticket.j0 k a2 t138 true) else (batonref02_Ticket.j0 k a2 t138 (decide (a2 > 1099511627775)))) else (batonref02_Ticket.j0 k a2 t138 true)) = some (r1, r2) := H; have A4 := Aside0.mk A40; clear A40; have HC5 := Aside0.mk H; clear H
  go_enter Try.func13, Try.ntmps13
  go_upto_region 2 with (first | ((with_reducible refine gate_callee (f := 11) rfl ?_); refine goesL_ (some 16) rfl rfl Try.func11 (by kernel_rfl) rfl #[.int .i64 a0, .string a1] rfl My.ar ?_; (with_reducible refine (batonref02_Prefix.calls k a0 a1 t138 t139 _ A4.out).mono ?_); rintro e w' ⟨rfl, ⟨nd, rfl⟩⟩; refine ⟨_, rfl, ?_⟩))
  (try simp only [Act.put, List.setIfInBounds_toArray, List.set_cons_zero, List.set_cons_succ])
  go_cut [28] (fun v28 wc => ∃ (kq : Nat) (x28_4 : Bool), v28 = .bool x28_4 ∧ Aside0 (batonref02_Ticket.j0 kq a2 t138 x28_4 = some (r1, r2)) ∧ Aside0 (kq ≤ k) ∧ Drawn0 w wc)
  case first =>
    have H := HC5.out; clear HC5
    by_cases c6 : t139 = true
    · subst c6
      (have H1 : (if a2 < 0 then (batonref02_Ticket.j0 k a2 t138 true) else (batonref02_Ticket.j0 k a2 t138 (decide (a2 > 1099511627775)))) = some (r1, r2) := by rw [if_pos rfl] at H; exact H); clear H; have H := H1; clear H1
      by_cases c7 : a2 < 0
      · rw [if_pos c7] at H
        have c7b0 := decide_eq_true c7; clear c7; (first | rw [c7b0] | (simp only [i64_w, i32_w]; rw [c7b0]) | skip); have H' := Aside0.mk H; clear H
        go_wp2
        go_meet
        case rel => exact ⟨_, (true), My.q0, H', ⟨by first | omega | exact Nat.le_refl _⟩, My.dD⟩
      · rw [if_neg c7] at H
        have c7b0 := decide_eq_false c7; clear c7; (first | rw [c7b0] | (simp only [i64_w, i32_w]; rw [c7b0]) | skip); have H' := Aside0.mk H; clear H
        go_wp2
        go_meet
        case rel => exact ⟨_, (decide (a2 > 1099511627775)), My.q0, H', ⟨by first | omega | exact Nat.le_refl _⟩, My.dD⟩
    · replace c6 := Bool.eq_false_iff.mpr c6
      subst c6; (have H1 : (batonref02_Ticket.j0 k a2 t138 true) = some (r1, r2) := by rw [if_neg (show ¬ (false = true) by decide)] at H; exact H); clear H; have H := H1; clear H1; have H' := Aside0.mk H; clear H
      go_wp2
      go_meet
      case rel => exact ⟨_, (true), My.q0, H', ⟨by first | omega | exact Nat.le_refl _⟩, My.dD⟩
  case rest =>
    clear HC5; (try clear c1); (try clear p2); (try clear c6); (try clear c7); (try clear c7b0); obtain ⟨kq, x28_4, rfl, HA, HJ4, ⟨mc4, rfl⟩⟩ := hcut
    cases kq with
    | zero => exact absurd HA.out (by simp [batonref02_Ticket.j0])
    | succ kj4 =>
      have H := HA.out; clear HA; simp only [batonref02_Ticket.j0] at H
      by_cases c8 : x28_4 = true
      · subst c8
        (have H1 : (some ((⟨#[]⟩ : ByteArray), false)) = some (r1, r2) := by rw [if_pos rfl] at H; exact H); clear H; have H := H1; clear H1; simp only [Option.some.injEq, Prod.mk.injEq] at H; obtain ⟨rfl, rfl⟩ := H
        go_wp2
        go_ret2
        exact ⟨My.q0, My.dD⟩
      · replace c8 := Bool.eq_false_iff.mpr c8
        subst c8; (have H1 : (batonref02_Ticket.l0 kj4 a2 t138 (⟨#[48, 49, 50, 51, 52, 53, 54, 55, 56, 57, 97, 98, 99, 100, 101, 102]⟩ : ByteArray) (⟨#[]⟩ : ByteArray) 0) = some (r1, r2) := by rw [if_neg (show ¬ (false = true) by decide)] at H; exact H); clear H; have H := H1; clear H1; have H' := Aside0.mk H; clear H
        go_wp2
        go_loopg [2, 11, 12] kj4 (fun kq v2 v11 v12 w' => ∃ (x2_2 : Int) (x11_2 : ByteArray) (x12_2 : Int), v2 = .int .i64 x2_2 ∧ v11 = .string x11_2 ∧ v12 = .int .i64 x12_2 ∧ Aside0 (batonref02_Ticket.l0 kq x2_2 t138 (⟨#[48, 49, 50, 51, 52, 53, 54, 55, 56, 57, 97, 98, 99, 100, 101, 102]⟩ : ByteArray) x11_2 x12_2 = some (r1, r2)) ∧ Aside0 (kq ≤ kj4) ∧ Drawn0 w w')
        case atStart => exact ⟨(a2), ((⟨#[]⟩ : ByteArray)), (0), My.q0, My.q0, My.q0, H', ⟨Nat.le_refl _⟩, My.dD⟩
        case round =>
          clear H'; (try clear c1); (try clear p2); (try clear c4); (try clear c6); (try clear c7); (try clear c7b0); (try clear c8); (try clear p2); obtain ⟨x2_2, x11_2, x12_2, rfl, rfl, rfl, HA, HK2, ⟨m2, rfl⟩⟩ := hrel
          cases gk with
          | zero => exact absurd HA.out (by simp [batonref02_Ticket.l0])
          | succ k2 =>
            have H := HA.out; clear HA; simp only [batonref02_Ticket.l0] at H
            by_cases c9 : x12_2 < 10
            · rw [if_pos c9] at H
              have c9b0 := decide_eq_true c9; clear c9; obtain ⟨ji10, hji10⟩ : ∃ j_ : Int, (Int.tmod x2_2 16) = j_ := ⟨_, rfl⟩; (replace H : (if 0 ≤ (ji10) then (if (ji10) ≤ (wrap64 ((ji10) + 1)) then (if (wrap64 ((ji10) + 1)) ≤ ((⟨#[48, 49, 50, 51, 52, 53, 54, 55, 56, 57, 97, 98, 99, 100, 101, 102]⟩ : ByteArray).size : Int) then (if ((⟨#[48, 49, 50, 51, 52, 53, 54, 55, 56, 57, 97, 98, 99, 100, 101, 102]⟩ : ByteArray).extract ((ji10) : Int).toNat ((wrap64 ((ji10) + 1)) : Int).toNat).size + x11_2.size ≤ 9223372036854775807 then (batonref02_Ticket.l0 k2 (wrap64 (Int.tdiv x2_2 16)) t138 (⟨#[48, 49, 50, 51, 52, 53, 54, 55, 56, 57, 97, 98, 99, 100, 101, 102]⟩ : ByteArray) (((⟨#[48, 49, 50, 51, 52, 53, 54, 55, 56, 57, 97, 98, 99, 100, 101, 102]⟩ : ByteArray).extract ((ji10) : Int).toNat ((wrap64 ((ji10) + 1)) : Int).toNat) ++ x11_2) (wrap64 (x12_2 + 1))) else (none)) else (none)) else (none)) else (none)) = some (r1, r2) := by first | (rw [hji10] at H; exact H) | (simp only [hji10] at H ⊢; exact H))
              by_cases c11 : 0 ≤ (ji10)
              · rw [if_pos c11] at H
                have c11b0 := eq_true c11; have c11b1 : decide (0 ≤ (ji10)) = true := decide_eq_true c11; clear c11
                by_cases c12 : (ji10) ≤ (wrap64 ((ji10) + 1))
                · rw [if_pos c12] at H
                  have c12b0 := eq_true c12; have c12b1 : decide ((ji10) ≤ (wrap64 ((ji10) + 1))) = true := decide_eq_true c12
                  by_cases c13 : (wrap64 ((ji10) + 1)) ≤ ((⟨#[48, 49, 50, 51, 52, 53, 54, 55, 56, 57, 97, 98, 99, 100, 101, 102]⟩ : ByteArray).size : Int)
                  · rw [if_pos c13] at H
                    have c13b0 := eq_true c13; have c13b1 : decide ((wrap64 ((ji10) + 1)) ≤ ((⟨#[48, 49, 50, 51, 52, 53, 54, 55, 56, 57, 97, 98, 99, 100, 101, 102]⟩ : ByteArray).size : Int)) = true := decide_eq_true c13; (try (have c13b7 : decide ((wrap64 ((ji10) + 1)) ≤ (16 : Int)) = true := c13b1)); (try (have c13b8 : ((wrap64 ((ji10) + 1)) ≤ (16 : Int)) = True := c13b0))
                    by_cases c14 : ((⟨#[48, 49, 50, 51, 52, 53, 54, 55, 56, 57, 97, 98, 99, 100, 101, 102]⟩ : ByteArray).extract ((ji10) : Int).toNat ((wrap64 ((ji10) + 1)) : Int).toNat).size + x11_2.size ≤ 9223372036854775807
                    · rw [if_pos c14] at H
                      have c14b0 := eq_true c14; have c14b1 : decide (((⟨#[48, 49, 50, 51, 52, 53, 54, 55, 56, 57, 97, 98, 99, 100, 101, 102]⟩ : ByteArray).extract ((ji10) : Int).toNat ((wrap64 ((ji10) + 1)) : Int).toNat).size + x11_2.size ≤ 9223372036854775807) = true := decide_eq_true c14; (try have c14b2 : (9223372036854775807 < ((⟨#[48, 49, 50, 51, 52, 53, 54, 55, 56, 57, 97, 98, 99, 100, 101, 102]⟩ : ByteArray).extract ((ji10) : Int).toNat ((wrap64 ((ji10) + 1)) : Int).toNat).size + x11_2.size) = False := eq_false (Nat.not_lt.2 c14)); (try (have c14b5 := c14b2; simp only [ByteArray.size_append, ByteArray.size_extract, My.size_mk, List.size_toArray, List.length_cons, List.length_nil, Nat.zero_add, Nat.reduceAdd] at c14b5)); (try (have c14b6 : (9223372036854775807 < ((⟨#[48, 49, 50, 51, 52, 53, 54, 55, 56, 57, 97, 98, 99, 100, 101, 102]⟩ : ByteArray).extract ((ji10) : Int).toNat ((wrap64 ((ji10) + 1)) : Int).toNat).size) = False := eq_false (by have := c14; omega); simp only [ByteArray.size_append, ByteArray.size_extract, My.size_mk, List.size_toArray, List.length_cons, List.length_nil, Nat.zero_add, Nat.reduceAdd] at c14b6)); have H' := Aside0.mk H; clear H
                      go_wp2
                      go_roundg k2
                      case measure => have := HJ4.out; have := HK2.out; omega
                      case rel => exact ⟨(wrap64 (Int.tdiv x2_2 16)), (((⟨#[48, 49, 50, 51, 52, 53, 54, 55, 56, 57, 97, 98, 99, 100, 101, 102]⟩ : ByteArray).extract ((ji10) : Int).toNat ((wrap64 ((ji10) + 1)) : Int).toNat) ++ x11_2), (wrap64 (x12_2 + 1)), My.q0, (by first | rfl | (simp; done) | (simp only [← hji10] <;> (first | rfl | simp)) | (simp [*]; done)), My.q0, H', ⟨by have := HJ4.out; have := HK2.out; omega⟩, My.dD⟩
                    · exact My.no c14 H
                  · exact My.no c13 H
                · exact My.no c12 H
              · exact My.no c11 H
            · rw [if_neg c9] at H
              have c9b0 := decide_eq_false c9; clear c9
              by_cases c15 : t138.size + x11_2.size ≤ 9223372036854775807
              · rw [if_pos c15] at H
                have c15b0 := eq_true c15; have c15b1 : decide (t138.size + x11_2.size ≤ 9223372036854775807) = true := decide_eq_true c15; (try have c15b2 : (9223372036854775807 < t138.size + x11_2.size) = False := eq_false (Nat.not_lt.2 c15)); simp only [Option.some.injEq, Prod.mk.injEq] at H; obtain ⟨rfl, rfl⟩ := H
                go_wp2
                go_ret2
                exact ⟨My.q0, My.dD⟩
              · exact My.no c15 H

end Go.Proofs.Ytfpkkjcefdighaa.PM
