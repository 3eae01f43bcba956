-- made by a program of this session (wip/tools/myprint.py over the kit's print) out of the translation; Lean checks it
import Derived.Test.YtfpkkjcefdighaaPM0
import Derived.Test.YtfpkkjcefdighaaPM3
import Derived.Test.YtfpkkjcefdighaaPM5
import Derived.Test.YtfpkkjcefdighaaPM6
import Derived.Test.YtfpkkjcefdighaaPM7
import Derived.Test.YtfpkkjcefdighaaPM9
import Derived.Test.YtfpkkjcefdighaaPM12
namespace Go.Proofs.Ytfpkkjcefdighaa.PM
open Go.RowKit Go.Proofs.YtfpkkjcefdighaaW.PrintWords Go.Proofs.YtfpkkjcefdighaaW.PrintLast Go.Proofs.YtfpkkjcefdighaaW.PrintMore
attribute [local go_sem] max2_int min2_int max_two min_two max_three min_three max_four min_four   -- for this text's walks alone
set_option linter.unusedVariables false
set_option linter.unusedSimpArgs false

/-! ### strings_HasPrefix: function 30 -/
def strings_HasPrefix.f (a0 : ByteArray) (a1 : ByteArray) : Option (Bool) := (stringslite_HasPrefix.f a0 a1).bind fun t111 => (some t111)
set_option maxHeartbeats 8000000 in
set_option maxRecDepth 100000 in
theorem strings_HasPrefix.calls (a0 : ByteArray) (a1 : ByteArray) (r : Bool) (w : World) (h : strings_HasPrefix.f a0 a1 = some r) :
    Calls Try.prog 30 #[.string a0, .string a1] w fun e w' => e = .returned (.bool r) ∧ Drawn0 w w' := by
  have H : ((stringslite_HasPrefix.f a0 a1).bind fun t111 => (some t111)) = some r := h
  clear h
  replace H := Option.bind_eq_some_iff.mp H
  obtain ⟨t111, A30, H⟩ := H
  replace H : (some t111) = some r := H
  have A3 := Aside0.mk A30
  clear A30
  obtain rfl := Option.some.inj H
  go_enter Try.func30, Try.ntmps30
  go_wp2_with (first | ((with_reducible refine gate_callee (f := 33) rfl ?_); refine goesL_ (some 7) rfl rfl Try.func33 (by kernel_rfl) rfl #[.string a0, .string a1] rfl (by (try simp only [List.map_toArray, List.map_cons, List.map_nil]); first | done | rfl | (simp only [List.length_drop, List.length_take]; rfl)) ?_; (with_reducible refine (stringslite_HasPrefix.calls a0 a1 t111 _ A3.out).mono ?_); rintro e w' ⟨rfl, ⟨nd, rfl⟩⟩; refine ⟨_, rfl, ?_⟩))
  go_ret
  exact ⟨by first | rfl | (simp; done) | (simp [*]; done), by repeat (first | exact Drawn0.refl _ | apply Drawn0.step)⟩

/-! ### key_Under: function 22 -/
def key_Under.f (a0 : ByteArray) (a1 : ByteArray) : Option (Bool) := (strings_HasPrefix.f a1 a0).bind fun t112 => (if t112 = true then (some (decide ((a1.size : Int) > (a0.size : Int)))) else (some false))
set_option maxHeartbeats 8000000 in
set_option maxRecDepth 100000 in
theorem key_Under.calls (a0 : ByteArray) (a1 : ByteArray) (r : Bool) (w : World) (h : key_Under.f a0 a1 = some r) :
    Calls Try.prog 22 #[.string a0, .string a1] w fun e w' => e = .returned (.bool r) ∧ Drawn0 w w' := by
  have H : ((strings_HasPrefix.f a1 a0).bind fun t112 => (if t112 = true then (some (decide ((a1.size : Int) > (a0.size : Int)))) else (some false))) = some r := h
  clear h
  replace H := Option.bind_eq_some_iff.mp H
  obtain ⟨t112, A30, H⟩ := H
  replace H : (if t112 = true then (some (decide ((a1.size : Int) > (a0.size : Int)))) else (some false)) = some r := H
  have A3 := Aside0.mk A30
  clear A30
  by_cases c4 : t112 = true
  · subst c4
    have H1 : (some (decide ((a1.size : Int) > (a0.size : Int)))) = some r := by rw [if_pos rfl] at H; exact H
    clear H
    have H := H1
    clear H1
    obtain rfl := Option.some.inj H
    go_enter Try.func22, Try.ntmps22
    go_wp2_with (first | ((with_reducible refine gate_callee (f := 30) rfl ?_); refine goesL_ (some 7) rfl rfl Try.func30 (by kernel_rfl) rfl #[.string a1, .string a0] rfl (by (try simp only [List.map_toArray, List.map_cons, List.map_nil]); first | done | rfl | (simp only [List.length_drop, List.length_take]; rfl)) ?_; (with_reducible refine (strings_HasPrefix.calls a1 a0 true _ A3.out).mono ?_); rintro e w' ⟨rfl, ⟨nd, rfl⟩⟩; refine ⟨_, rfl, ?_⟩))
    go_ret
    exact ⟨by first | rfl | (simp; done) | (simp [*]; done), by repeat (first | exact Drawn0.refl _ | apply Drawn0.step)⟩
  · replace c4 := Bool.eq_false_iff.mpr c4
    subst c4
    have H1 : (some false) = some r := by rw [if_neg (show ¬ (false = true) by decide)] at H; exact H
    clear H
    have H := H1
    clear H1
    obtain rfl := Option.some.inj H
    go_enter Try.func22, Try.ntmps22
    go_wp2_with (first | ((with_reducible refine gate_callee (f := 30) rfl ?_); refine goesL_ (some 7) rfl rfl Try.func30 (by kernel_rfl) rfl #[.string a1, .string a0] rfl (by (try simp only [List.map_toArray, List.map_cons, List.map_nil]); first | done | rfl | (simp only [List.length_drop, List.length_take]; rfl)) ?_; (with_reducible refine (strings_HasPrefix.calls a1 a0 false _ A3.out).mono ?_); rintro e w' ⟨rfl, ⟨nd, rfl⟩⟩; refine ⟨_, rfl, ?_⟩))
    go_ret
    exact ⟨by first | rfl | (simp; done) | (simp [*]; done), by repeat (first | exact Drawn0.refl _ | apply Drawn0.step)⟩

/-! ### batonlaw02_live: function 9 -/
def batonlaw02_live.f  : Option (Bool) := (key_Ticket.f 1 (⟨#[97]⟩ : ByteArray) 255).bind fun bt113 => ((key_Ticket.f 1 (⟨#[65]⟩ : ByteArray) 255).bind fun bt115 => ((key_Prefix.f 3 (⟨#[120, 57]⟩ : ByteArray)).bind fun bt117 => ((key_Id.f (⟨#[109, 47, 97, 47]⟩ : ByteArray) bt113.1).bind fun bt119 => ((key_Id.f (⟨#[109, 47, 97]⟩ : ByteArray) bt113.1).bind fun bt121 => ((key_Flag.f (⟨#[122]⟩ : ByteArray)).bind fun bt123 => (if bt113.1.toList = ([109, 47, 97, 47, 48, 48, 48, 48, 48, 48, 48, 48, 102, 102] : List UInt8) then (if bt113.2 = true then (if bt115.2 = true then (none) else (if bt117.1.toList = ([108, 47, 120, 57, 47] : List UInt8) then (if bt117.2 = true then (if bt119.1 = 255 then (if bt119.2 = true then (if bt121.2 = true then (none) else (if bt123.1.toList = ([112, 47, 122, 47, 111, 112, 101, 110] : List UInt8) then (if bt123.2 = true then ((key_Check.f bt113.1).bind fun t125 => (if t125 = true then ((key_Check.f (⟨#[97, 32, 98]⟩ : ByteArray)).bind fun t126 => (if t126 = true then (none) else ((key_Name.f (⟨#[120, 57]⟩ : ByteArray)).bind fun t127 => (if t127 = true then ((key_Name.f (⟨#[]⟩ : ByteArray)).bind fun t128 => (if t128 = true then (none) else ((key_Under.f (⟨#[109, 47, 97, 47]⟩ : ByteArray) bt113.1).bind fun t129 => (if t129 = true then ((key_Under.f bt113.1 bt113.1).bind fun t130 => (some (!t130))) else (none))))) else (none))))) else (none))) else (none)) else (none))) else (none)) else (none)) else (none)) else (none))) else (none)) else (none)))))))
set_option maxHeartbeats 8000000 in
set_option maxRecDepth 100000 in
theorem batonlaw02_live.calls  (r : Bool) (w : World) (h : batonlaw02_live.f  = some r) :
    Calls Try.prog 9 #[] w fun e w' => e = .returned (.bool r) ∧ Below w.heap.size w w' := by
  have HB := Aside0.mk (Below.refl w.heap.size w)
  have H : ((key_Ticket.f 1 (⟨#[97]⟩ : ByteArray) 255).bind fun bt113 => ((key_Ticket.f 1 (⟨#[65]⟩ : ByteArray) 255).bind fun bt115 => ((key_Prefix.f 3 (⟨#[120, 57]⟩ : ByteArray)).bind fun bt117 => ((key_Id.f (⟨#[109, 47, 97, 47]⟩ : ByteArray) bt113.1).bind fun bt119 => ((key_Id.f (⟨#[109, 47, 97]⟩ : ByteArray) bt113.1).bind fun bt121 => ((key_Flag.f (⟨#[122]⟩ : ByteArray)).bind fun bt123 => (if bt113.1.toList = ([109, 47, 97, 47, 48, 48, 48, 48, 48, 48, 48, 48, 102, 102] : List UInt8) then (if bt113.2 = true then (if bt115.2 = true then (none) else (if bt117.1.toList = ([108, 47, 120, 57, 47] : List UInt8) then (if bt117.2 = true then (if bt119.1 = 255 then (if bt119.2 = true then (if bt121.2 = true then (none) else (if bt123.1.toList = ([112, 47, 122, 47, 111, 112, 101, 110] : List UInt8) then (if bt123.2 = true then ((key_Check.f bt113.1).bind fun t125 => (if t125 = true then ((key_Check.f (⟨#[97, 32, 98]⟩ : ByteArray)).bind fun t126 => (if t126 = true then (none) else ((key_Name.f (⟨#[120, 57]⟩ : ByteArray)).bind fun t127 => (if t127 = true then ((key_Name.f (⟨#[]⟩ : ByteArray)).bind fun t128 => (if t128 = true then (none) else ((key_Under.f (⟨#[109, 47, 97, 47]⟩ : ByteArray) bt113.1).bind fun t129 => (if t129 = true then ((key_Under.f bt113.1 bt113.1).bind fun t130 => (some (!t130))) else (none))))) else (none))))) else (none))) else (none)) else (none))) else (none)) else (none)) else (none)) else (none))) else (none)) else (none)))))))) = some r := h
  clear h
  replace H := Option.bind_eq_some_iff.mp H
  obtain ⟨⟨t113, t114⟩, A10, H⟩ := H
  replace H : ((key_Ticket.f 1 (⟨#[65]⟩ : ByteArray) 255).bind fun bt115 => ((key_Prefix.f 3 (⟨#[120, 57]⟩ : ByteArray)).bind fun bt117 => ((key_Id.f (⟨#[109, 47, 97, 47]⟩ : ByteArray) t113).bind fun bt119 => ((key_Id.f (⟨#[109, 47, 97]⟩ : ByteArray) t113).bind fun bt121 => ((key_Flag.f (⟨#[122]⟩ : ByteArray)).bind fun bt123 => (if t113.toList = ([109, 47, 97, 47, 48, 48, 48, 48, 48, 48, 48, 48, 102, 102] : List UInt8) then (if t114 = true then (if bt115.2 = true then (none) else (if bt117.1.toList = ([108, 47, 120, 57, 47] : List UInt8) then (if bt117.2 = true then (if bt119.1 = 255 then (if bt119.2 = true then (if bt121.2 = true then (none) else (if bt123.1.toList = ([112, 47, 122, 47, 111, 112, 101, 110] : List UInt8) then (if bt123.2 = true then ((key_Check.f t113).bind fun t125 => (if t125 = true then ((key_Check.f (⟨#[97, 32, 98]⟩ : ByteArray)).bind fun t126 => (if t126 = true then (none) else ((key_Name.f (⟨#[120, 57]⟩ : ByteArray)).bind fun t127 => (if t127 = true then ((key_Name.f (⟨#[]⟩ : ByteArray)).bind fun t128 => (if t128 = true then (none) else ((key_Under.f (⟨#[109, 47, 97, 47]⟩ : ByteArray) t113).bind fun t129 => (if t129 = true then ((key_Under.f t113 t113).bind fun t130 => (some (!t130))) else (none))))) else (none))))) else (none))) else (none)) else (none))) else (none)) else (none)) else (none)) else (none))) else (none)) else (none))))))) = some r := H
  have A1 := Aside0.mk A10
  clear A10
  replace H := Option.bind_eq_some_iff.mp H
  obtain ⟨⟨t115, t116⟩, A20, H⟩ := H
  replace H : ((key_Prefix.f 3 (⟨#[120, 57]⟩ : ByteArray)).bind fun bt117 => ((key_Id.f (⟨#[109, 47, 97, 47]⟩ : ByteArray) t113).bind fun bt119 => ((key_Id.f (⟨#[109, 47, 97]⟩ : ByteArray) t113).bind fun bt121 => ((key_Flag.f (⟨#[122]⟩ : ByteArray)).bind fun bt123 => (if t113.toList = ([109, 47, 97, 47, 48, 48, 48, 48, 48, 48, 48, 48, 102, 102] : List UInt8) then (if t114 = true then (if t116 = true then (none) else (if bt117.1.toList = ([108, 47, 120, 57, 47] : List UInt8) then (if bt117.2 = true then (if bt119.1 = 255 then (if bt119.2 = true then (if bt121.2 = true then (none) else (if bt123.1.toList = ([112, 47, 122, 47, 111, 112, 101, 110] : List UInt8) then (if bt123.2 = true then ((key_Check.f t113).bind fun t125 => (if t125 = true then ((key_Check.f (⟨#[97, 32, 98]⟩ : ByteArray)).bind fun t126 => (if t126 = true then (none) else ((key_Name.f (⟨#[120, 57]⟩ : ByteArray)).bind fun t127 => (if t127 = true then ((key_Name.f (⟨#[]⟩ : ByteArray)).bind fun t128 => (if t128 = true then (none) else ((key_Under.f (⟨#[109, 47, 97, 47]⟩ : ByteArray) t113).bind fun t129 => (if t129 = true then ((key_Under.f t113 t113).bind fun t130 => (some (!t130))) else (none))))) else (none))))) else (none))) else (none)) else (none))) else (none)) else (none)) else (none)) else (none))) else (none)) else (none)))))) = some r := H
  have A2 := Aside0.mk A20
  clear A20
  replace H := Option.bind_eq_some_iff.mp H
  obtain ⟨⟨t117, t118⟩, A30, H⟩ := H
  replace H : ((key_Id.f (⟨#[109, 47, 97, 47]⟩ : ByteArray) t113).bind fun bt119 => ((key_Id.f (⟨#[109, 47, 97]⟩ : ByteArray) t113).bind fun bt121 => ((key_Flag.f (⟨#[122]⟩ : ByteArray)).bind fun bt123 => (if t113.toList = ([109, 47, 97, 47, 48, 48, 48, 48, 48, 48, 48, 48, 102, 102] : List UInt8) then (if t114 = true then (if t116 = true then (none) else (if t117.toList = ([108, 47, 120, 57, 47] : List UInt8) then (if t118 = true then (if bt119.1 = 255 then (if bt119.2 = true then (if bt121.2 = true then (none) else (if bt123.1.toList = ([112, 47, 122, 47, 111, 112, 101, 110] : List UInt8) then (if bt123.2 = true then ((key_Check.f t113).bind fun t125 => (if t125 = true then ((key_Check.f (⟨#[97, 32, 98]⟩ : ByteArray)).bind fun t126 => (if t126 = true then (none) else ((key_Name.f (⟨#[120, 57]⟩ : ByteArray)).bind fun t127 => (if t127 = true then ((key_Name.f (⟨#[]⟩ : ByteArray)).bind fun t128 => (if t128 = true then (none) else ((key_Under.f (⟨#[109, 47, 97, 47]⟩ : ByteArray) t113).bind fun t129 => (if t129 = true then ((key_Under.f t113 t113).bind fun t130 => (some (!t130))) else (none))))) else (none))))) else (none))) else (none)) else (none))) else (none)) else (none)) else (none)) else (none))) else (none)) else (none))))) = some r := H
  have A3 := Aside0.mk A30
  clear A30
  replace H := Option.bind_eq_some_iff.mp H
  obtain ⟨⟨t119, t120⟩, A40, H⟩ := H
  replace H : ((key_Id.f (⟨#[109, 47, 97]⟩ : ByteArray) t113).bind fun bt121 => ((key_Flag.f (⟨#[122]⟩ : ByteArray)).bind fun bt123 => (if t113.toList = ([109, 47, 97, 47, 48, 48, 48, 48, 48, 48, 48, 48, 102, 102] : List UInt8) then (if t114 = true then (if t116 = true then (none) else (if t117.toList = ([108, 47, 120, 57, 47] : List UInt8) then (if t118 = true then (if t119 = 255 then (if t120 = true then (if bt121.2 = true then (none) else (if bt123.1.toList = ([112, 47, 122, 47, 111, 112, 101, 110] : List UInt8) then (if bt123.2 = true then ((key_Check.f t113).bind fun t125 => (if t125 = true then ((key_Check.f (⟨#[97, 32, 98]⟩ : ByteArray)).bind fun t126 => (if t126 = true then (none) else ((key_Name.f (⟨#[120, 57]⟩ : ByteArray)).bind fun t127 => (if t127 = true then ((key_Name.f (⟨#[]⟩ : ByteArray)).bind fun t128 => (if t128 = true then (none) else ((key_Under.f (⟨#[109, 47, 97, 47]⟩ : ByteArray) t113).bind fun t129 => (if t129 = true then ((key_Under.f t113 t113).bind fun t130 => (some (!t130))) else (none))))) else (none))))) else (none))) else (none)) else (none))) else (none)) else (none)) else (none)) else (none))) else (none)) else (none)))) = some r := H
  have A4 := Aside0.mk A40
  clear A40
  replace H := Option.bind_eq_some_iff.mp H
  obtain ⟨⟨t121, t122⟩, A50, H⟩ := H
  replace H : ((key_Flag.f (⟨#[122]⟩ : ByteArray)).bind fun bt123 => (if t113.toList = ([109, 47, 97, 47, 48, 48, 48, 48, 48, 48, 48, 48, 102, 102] : List UInt8) then (if t114 = true then (if t116 = true then (none) else (if t117.toList = ([108, 47, 120, 57, 47] : List UInt8) then (if t118 = true then (if t119 = 255 then (if t120 = true then (if t122 = true then (none) else (if bt123.1.toList = ([112, 47, 122, 47, 111, 112, 101, 110] : List UInt8) then (if bt123.2 = true then ((key_Check.f t113).bind fun t125 => (if t125 = true then ((key_Check.f (⟨#[97, 32, 98]⟩ : ByteArray)).bind fun t126 => (if t126 = true then (none) else ((key_Name.f (⟨#[120, 57]⟩ : ByteArray)).bind fun t127 => (if t127 = true then ((key_Name.f (⟨#[]⟩ : ByteArray)).bind fun t128 => (if t128 = true then (none) else ((key_Under.f (⟨#[109, 47, 97, 47]⟩ : ByteArray) t113).bind fun t129 => (if t129 = true then ((key_Under.f t113 t113).bind fun t130 => (some (!t130))) else (none))))) else (none))))) else (none))) else (none)) else (none))) else (none)) else (none)) else (none)) else (none))) else (none)) else (none))) = some r := H
  have A5 := Aside0.mk A50
  clear A50
  replace H := Option.bind_eq_some_iff.mp H
  obtain ⟨⟨t123, t124⟩, A60, H⟩ := H
  replace H : (if t113.toList = ([109, 47, 97, 47, 48, 48, 48, 48, 48, 48, 48, 48, 102, 102] : List UInt8) then (if t114 = true then (if t116 = true then (none) else (if t117.toList = ([108, 47, 120, 57, 47] : List UInt8) then (if t118 = true then (if t119 = 255 then (if t120 = true then (if t122 = true then (none) else (if t123.toList = ([112, 47, 122, 47, 111, 112, 101, 110] : List UInt8) then (if t124 = true then ((key_Check.f t113).bind fun t125 => (if t125 = true then ((key_Check.f (⟨#[97, 32, 98]⟩ : ByteArray)).bind fun t126 => (if t126 = true then (none) else ((key_Name.f (⟨#[120, 57]⟩ : ByteArray)).bind fun t127 => (if t127 = true then ((key_Name.f (⟨#[]⟩ : ByteArray)).bind fun t128 => (if t128 = true then (none) else ((key_Under.f (⟨#[109, 47, 97, 47]⟩ : ByteArray) t113).bind fun t129 => (if t129 = true then ((key_Under.f t113 t113).bind fun t130 => (some (!t130))) else (none))))) else (none))))) else (none))) else (none)) else (none))) else (none)) else (none)) else (none)) else (none))) else (none)) else (none)) = some r := H
  have A6 := Aside0.mk A60
  clear A60
  by_cases c7 : t113.toList = ([109, 47, 97, 47, 48, 48, 48, 48, 48, 48, 48, 48, 102, 102] : List UInt8)
  · rw [if_pos c7] at H
    have c7b0 : (t113.toList == ([109, 47, 97, 47, 48, 48, 48, 48, 48, 48, 48, 48, 102, 102] : List UInt8)) = true := beq_iff_eq.mpr c7
    have c7b1 : (t113.toList != ([109, 47, 97, 47, 48, 48, 48, 48, 48, 48, 48, 48, 102, 102] : List UInt8)) = false := bne_eq_false_iff_eq.mpr c7
    clear c7
    by_cases c8 : t114 = true
    · subst c8
      have H1 : (if t116 = true then (none) else (if t117.toList = ([108, 47, 120, 57, 47] : List UInt8) then (if t118 = true then (if t119 = 255 then (if t120 = true then (if t122 = true then (none) else (if t123.toList = ([112, 47, 122, 47, 111, 112, 101, 110] : List UInt8) then (if t124 = true then ((key_Check.f t113).bind fun t125 => (if t125 = true then ((key_Check.f (⟨#[97, 32, 98]⟩ : ByteArray)).bind fun t126 => (if t126 = true then (none) else ((key_Name.f (⟨#[120, 57]⟩ : ByteArray)).bind fun t127 => (if t127 = true then ((key_Name.f (⟨#[]⟩ : ByteArray)).bind fun t128 => (if t128 = true then (none) else ((key_Under.f (⟨#[109, 47, 97, 47]⟩ : ByteArray) t113).bind fun t129 => (if t129 = true then ((key_Under.f t113 t113).bind fun t130 => (some (!t130))) else (none))))) else (none))))) else (none))) else (none)) else (none))) else (none)) else (none)) else (none)) else (none))) = some r := by rw [if_pos rfl] at H; exact H
      clear H
      have H := H1
      clear H1
      by_cases c9 : t116 = true
      · subst c9
        have H1 : (none) = some r := by rw [if_pos rfl] at H; exact H
        clear H
        have H := H1
        clear H1
        exact absurd H (by simp)
      · replace c9 := Bool.eq_false_iff.mpr c9
        subst c9
        have H1 : (if t117.toList = ([108, 47, 120, 57, 47] : List UInt8) then (if t118 = true then (if t119 = 255 then (if t120 = true then (if t122 = true then (none) else (if t123.toList = ([112, 47, 122, 47, 111, 112, 101, 110] : List UInt8) then (if t124 = true then ((key_Check.f t113).bind fun t125 => (if t125 = true then ((key_Check.f (⟨#[97, 32, 98]⟩ : ByteArray)).bind fun t126 => (if t126 = true then (none) else ((key_Name.f (⟨#[120, 57]⟩ : ByteArray)).bind fun t127 => (if t127 = true then ((key_Name.f (⟨#[]⟩ : ByteArray)).bind fun t128 => (if t128 = true then (none) else ((key_Under.f (⟨#[109, 47, 97, 47]⟩ : ByteArray) t113).bind fun t129 => (if t129 = true then ((key_Under.f t113 t113).bind fun t130 => (some (!t130))) else (none))))) else (none))))) else (none))) else (none)) else (none))) else (none)) else (none)) else (none)) else (none)) = some r := by rw [if_neg (show ¬ (false = true) by decide)] at H; exact H
        clear H
        have H := H1
        clear H1
        by_cases c10 : t117.toList = ([108, 47, 120, 57, 47] : List UInt8)
        · rw [if_pos c10] at H
          have c10b0 : (t117.toList == ([108, 47, 120, 57, 47] : List UInt8)) = true := beq_iff_eq.mpr c10
          have c10b1 : (t117.toList != ([108, 47, 120, 57, 47] : List UInt8)) = false := bne_eq_false_iff_eq.mpr c10
          clear c10
          by_cases c11 : t118 = true
          · subst c11
            have H1 : (if t119 = 255 then (if t120 = true then (if t122 = true then (none) else (if t123.toList = ([112, 47, 122, 47, 111, 112, 101, 110] : List UInt8) then (if t124 = true then ((key_Check.f t113).bind fun t125 => (if t125 = true then ((key_Check.f (⟨#[97, 32, 98]⟩ : ByteArray)).bind fun t126 => (if t126 = true then (none) else ((key_Name.f (⟨#[120, 57]⟩ : ByteArray)).bind fun t127 => (if t127 = true then ((key_Name.f (⟨#[]⟩ : ByteArray)).bind fun t128 => (if t128 = true then (none) else ((key_Under.f (⟨#[109, 47, 97, 47]⟩ : ByteArray) t113).bind fun t129 => (if t129 = true then ((key_Under.f t113 t113).bind fun t130 => (some (!t130))) else (none))))) else (none))))) else (none))) else (none)) else (none))) else (none)) else (none)) = some r := by rw [if_pos rfl] at H; exact H
            clear H
            have H := H1
            clear H1
            by_cases c12 : t119 = 255
            · rw [if_pos c12] at H
              have c12b0 : (t119 == 255) = true := beq_iff_eq.mpr c12
              have c12b1 : (t119 != 255) = false := bne_eq_false_iff_eq.mpr c12
              clear c12
              by_cases c13 : t120 = true
              · subst c13
                have H1 : (if t122 = true then (none) else (if t123.toList = ([112, 47, 122, 47, 111, 112, 101, 110] : List UInt8) then (if t124 = true then ((key_Check.f t113).bind fun t125 => (if t125 = true then ((key_Check.f (⟨#[97, 32, 98]⟩ : ByteArray)).bind fun t126 => (if t126 = true then (none) else ((key_Name.f (⟨#[120, 57]⟩ : ByteArray)).bind fun t127 => (if t127 = true then ((key_Name.f (⟨#[]⟩ : ByteArray)).bind fun t128 => (if t128 = true then (none) else ((key_Under.f (⟨#[109, 47, 97, 47]⟩ : ByteArray) t113).bind fun t129 => (if t129 = true then ((key_Under.f t113 t113).bind fun t130 => (some (!t130))) else (none))))) else (none))))) else (none))) else (none)) else (none))) = some r := by rw [if_pos rfl] at H; exact H
                clear H
                have H := H1
                clear H1
                by_cases c14 : t122 = true
                · subst c14
                  have H1 : (none) = some r := by rw [if_pos rfl] at H; exact H
                  clear H
                  have H := H1
                  clear H1
                  exact absurd H (by simp)
                · replace c14 := Bool.eq_false_iff.mpr c14
                  subst c14
                  have H1 : (if t123.toList = ([112, 47, 122, 47, 111, 112, 101, 110] : List UInt8) then (if t124 = true then ((key_Check.f t113).bind fun t125 => (if t125 = true then ((key_Check.f (⟨#[97, 32, 98]⟩ : ByteArray)).bind fun t126 => (if t126 = true then (none) else ((key_Name.f (⟨#[120, 57]⟩ : ByteArray)).bind fun t127 => (if t127 = true then ((key_Name.f (⟨#[]⟩ : ByteArray)).bind fun t128 => (if t128 = true then (none) else ((key_Under.f (⟨#[109, 47, 97, 47]⟩ : ByteArray) t113).bind fun t129 => (if t129 = true then ((key_Under.f t113 t113).bind fun t130 => (some (!t130))) else (none))))) else (none))))) else (none))) else (none)) else (none)) = some r := by rw [if_neg (show ¬ (false = true) by decide)] at H; exact H
                  clear H
                  have H := H1
                  clear H1
                  by_cases c15 : t123.toList = ([112, 47, 122, 47, 111, 112, 101, 110] : List UInt8)
                  · rw [if_pos c15] at H
                    have c15b0 : (t123.toList == ([112, 47, 122, 47, 111, 112, 101, 110] : List UInt8)) = true := beq_iff_eq.mpr c15
                    have c15b1 : (t123.toList != ([112, 47, 122, 47, 111, 112, 101, 110] : List UInt8)) = false := bne_eq_false_iff_eq.mpr c15
                    clear c15
                    by_cases c16 : t124 = true
                    · subst c16
                      have H1 : ((key_Check.f t113).bind fun t125 => (if t125 = true then ((key_Check.f (⟨#[97, 32, 98]⟩ : ByteArray)).bind fun t126 => (if t126 = true then (none) else ((key_Name.f (⟨#[120, 57]⟩ : ByteArray)).bind fun t127 => (if t127 = true then ((key_Name.f (⟨#[]⟩ : ByteArray)).bind fun t128 => (if t128 = true then (none) else ((key_Under.f (⟨#[109, 47, 97, 47]⟩ : ByteArray) t113).bind fun t129 => (if t129 = true then ((key_Under.f t113 t113).bind fun t130 => (some (!t130))) else (none))))) else (none))))) else (none))) = some r := by rw [if_pos rfl] at H; exact H
                      clear H
                      have H := H1
                      clear H1
                      replace H := Option.bind_eq_some_iff.mp H
                      obtain ⟨t125, A170, H⟩ := H
                      replace H : (if t125 = true then ((key_Check.f (⟨#[97, 32, 98]⟩ : ByteArray)).bind fun t126 => (if t126 = true then (none) else ((key_Name.f (⟨#[120, 57]⟩ : ByteArray)).bind fun t127 => (if t127 = true then ((key_Name.f (⟨#[]⟩ : ByteArray)).bind fun t128 => (if t128 = true then (none) else ((key_Under.f (⟨#[109, 47, 97, 47]⟩ : ByteArray) t113).bind fun t129 => (if t129 = true then ((key_Under.f t113 t113).bind fun t130 => (some (!t130))) else (none))))) else (none))))) else (none)) = some r := H
                      have A17 := Aside0.mk A170
                      clear A170
                      by_cases c18 : t125 = true
                      · subst c18
                        have H1 : ((key_Check.f (⟨#[97, 32, 98]⟩ : ByteArray)).bind fun t126 => (if t126 = true then (none) else ((key_Name.f (⟨#[120, 57]⟩ : ByteArray)).bind fun t127 => (if t127 = true then ((key_Name.f (⟨#[]⟩ : ByteArray)).bind fun t128 => (if t128 = true then (none) else ((key_Under.f (⟨#[109, 47, 97, 47]⟩ : ByteArray) t113).bind fun t129 => (if t129 = true then ((key_Under.f t113 t113).bind fun t130 => (some (!t130))) else (none))))) else (none))))) = some r := by rw [if_pos rfl] at H; exact H
                        clear H
                        have H := H1
                        clear H1
                        replace H := Option.bind_eq_some_iff.mp H
                        obtain ⟨t126, A190, H⟩ := H
                        replace H : (if t126 = true then (none) else ((key_Name.f (⟨#[120, 57]⟩ : ByteArray)).bind fun t127 => (if t127 = true then ((key_Name.f (⟨#[]⟩ : ByteArray)).bind fun t128 => (if t128 = true then (none) else ((key_Under.f (⟨#[109, 47, 97, 47]⟩ : ByteArray) t113).bind fun t129 => (if t129 = true then ((key_Under.f t113 t113).bind fun t130 => (some (!t130))) else (none))))) else (none)))) = some r := H
                        have A19 := Aside0.mk A190
                        clear A190
                        by_cases c20 : t126 = true
                        · subst c20
                          have H1 : (none) = some r := by rw [if_pos rfl] at H; exact H
                          clear H
                          have H := H1
                          clear H1
                          exact absurd H (by simp)
                        · replace c20 := Bool.eq_false_iff.mpr c20
                          subst c20
                          have H1 : ((key_Name.f (⟨#[120, 57]⟩ : ByteArray)).bind fun t127 => (if t127 = true then ((key_Name.f (⟨#[]⟩ : ByteArray)).bind fun t128 => (if t128 = true then (none) else ((key_Under.f (⟨#[109, 47, 97, 47]⟩ : ByteArray) t113).bind fun t129 => (if t129 = true then ((key_Under.f t113 t113).bind fun t130 => (some (!t130))) else (none))))) else (none))) = some r := by rw [if_neg (show ¬ (false = true) by decide)] at H; exact H
                          clear H
                          have H := H1
                          clear H1
                          replace H := Option.bind_eq_some_iff.mp H
                          obtain ⟨t127, A210, H⟩ := H
                          replace H : (if t127 = true then ((key_Name.f (⟨#[]⟩ : ByteArray)).bind fun t128 => (if t128 = true then (none) else ((key_Under.f (⟨#[109, 47, 97, 47]⟩ : ByteArray) t113).bind fun t129 => (if t129 = true then ((key_Under.f t113 t113).bind fun t130 => (some (!t130))) else (none))))) else (none)) = some r := H
                          have A21 := Aside0.mk A210
                          clear A210
                          by_cases c22 : t127 = true
                          · subst c22
                            have H1 : ((key_Name.f (⟨#[]⟩ : ByteArray)).bind fun t128 => (if t128 = true then (none) else ((key_Under.f (⟨#[109, 47, 97, 47]⟩ : ByteArray) t113).bind fun t129 => (if t129 = true then ((key_Under.f t113 t113).bind fun t130 => (some (!t130))) else (none))))) = some r := by rw [if_pos rfl] at H; exact H
                            clear H
                            have H := H1
                            clear H1
                            replace H := Option.bind_eq_some_iff.mp H
                            obtain ⟨t128, A230, H⟩ := H
                            replace H : (if t128 = true then (none) else ((key_Under.f (⟨#[109, 47, 97, 47]⟩ : ByteArray) t113).bind fun t129 => (if t129 = true then ((key_Under.f t113 t113).bind fun t130 => (some (!t130))) else (none)))) = some r := H
                            have A23 := Aside0.mk A230
                            clear A230
                            by_cases c24 : t128 = true
                            · subst c24
                              have H1 : (none) = some r := by rw [if_pos rfl] at H; exact H
                              clear H
                              have H := H1
                              clear H1
                              exact absurd H (by simp)
                            · replace c24 := Bool.eq_false_iff.mpr c24
                              subst c24
                              have H1 : ((key_Under.f (⟨#[109, 47, 97, 47]⟩ : ByteArray) t113).bind fun t129 => (if t129 = true then ((key_Under.f t113 t113).bind fun t130 => (some (!t130))) else (none))) = some r := by rw [if_neg (show ¬ (false = true) by decide)] at H; exact H
                              clear H
                              have H := H1
                              clear H1
                              replace H := Option.bind_eq_some_iff.mp H
                              obtain ⟨t129, A250, H⟩ := H
                              replace H : (if t129 = true then ((key_Under.f t113 t113).bind fun t130 => (some (!t130))) else (none)) = some r := H
                              have A25 := Aside0.mk A250
                              clear A250
                              by_cases c26 : t129 = true
                              · subst c26
                                have H1 : ((key_Under.f t113 t113).bind fun t130 => (some (!t130))) = some r := by rw [if_pos rfl] at H; exact H
                                clear H
                                have H := H1
                                clear H1
                                replace H := Option.bind_eq_some_iff.mp H
                                obtain ⟨t130, A270, H⟩ := H
                                replace H : (some (!t130)) = some r := H
                                have A27 := Aside0.mk A270
                                clear A270
                                obtain rfl := Option.some.inj H
                                go_enter Try.func9, Try.ntmps9
                                go_wp2_with (first | ((with_reducible refine gate_callee (f := 12) rfl ?_); refine goesL_ (some 14) rfl rfl Try.func12 (by kernel_rfl) rfl #[.int .i64 1, .string (⟨#[97]⟩ : ByteArray), .int .i64 255] rfl (by (try simp only [List.map_toArray, List.map_cons, List.map_nil]); first | done | rfl | (simp only [List.length_drop, List.length_take]; rfl)) ?_; (with_reducible refine (key_Ticket.calls 1 (⟨#[97]⟩ : ByteArray) 255 t113 true _ A1.out).mono ?_); rintro e w28 ⟨rfl, hb⟩; refine ⟨_, rfl, ?_⟩; have n0_ := Aside0.mk (below_step (by repeat (first | (with_reducible first | exact HB.out | apply below_alloc | apply pw_below_drewN | apply below_drew1) | exact HB.out)) hb); clear HB; have HB := n0_; clear n0_; (try clear hb); (try clear hb2); (try clear hk); (try clear hi)) | ((with_reducible refine gate_callee (f := 12) rfl ?_); refine goesL_ (some 18) rfl rfl Try.func12 (by kernel_rfl) rfl #[.int .i64 1, .string (⟨#[65]⟩ : ByteArray), .int .i64 255] rfl (by (try simp only [List.map_toArray, List.map_cons, List.map_nil]); first | done | rfl | (simp only [List.length_drop, List.length_take]; rfl)) ?_; (with_reducible refine (key_Ticket.calls 1 (⟨#[65]⟩ : ByteArray) 255 t115 false _ A2.out).mono ?_); rintro e w29 ⟨rfl, hb⟩; refine ⟨_, rfl, ?_⟩; have n0_ := Aside0.mk (below_step (by repeat (first | (with_reducible first | exact HB.out | apply below_alloc | apply pw_below_drewN | apply below_drew1) | exact HB.out)) hb); clear HB; have HB := n0_; clear n0_; (try clear hb); (try clear hb2); (try clear hk); (try clear hi)) | ((with_reducible refine gate_callee (f := 10) rfl ?_); refine goesL_ (some 22) rfl rfl Try.func10 (by kernel_rfl) rfl #[.int .i64 3, .string (⟨#[120, 57]⟩ : ByteArray)] rfl (by (try simp only [List.map_toArray, List.map_cons, List.map_nil]); first | done | rfl | (simp only [List.length_drop, List.length_take]; rfl)) ?_; (with_reducible refine (key_Prefix.calls 3 (⟨#[120, 57]⟩ : ByteArray) t117 true _ A3.out).mono ?_); rintro e w30 ⟨rfl, hb⟩; refine ⟨_, rfl, ?_⟩; have n0_ := Aside0.mk (below_step (by repeat (first | (with_reducible first | exact HB.out | apply below_alloc | apply pw_below_drewN | apply below_drew1) | exact HB.out)) hb); clear HB; have HB := n0_; clear n0_; (try clear hb); (try clear hb2); (try clear hk); (try clear hi)) | ((with_reducible refine gate_callee (f := 20) rfl ?_); refine goesL_ (some 27) rfl rfl Try.func20 (by kernel_rfl) rfl #[.string (⟨#[109, 47, 97, 47]⟩ : ByteArray), .string t113] rfl (by (try simp only [List.map_toArray, List.map_cons, List.map_nil]); first | done | rfl | (simp only [List.length_drop, List.length_take]; rfl)) ?_; (with_reducible refine (key_Id.calls (⟨#[109, 47, 97, 47]⟩ : ByteArray) t113 t119 true _ A4.out).mono ?_); rintro e w31 ⟨rfl, hb⟩; refine ⟨_, rfl, ?_⟩; have n0_ := Aside0.mk (below_step (by repeat (first | (with_reducible first | exact HB.out | apply below_alloc | apply pw_below_drewN | apply below_drew1) | exact HB.out)) hb); clear HB; have HB := n0_; clear n0_; (try clear hb); (try clear hb2); (try clear hk); (try clear hi)) | ((with_reducible refine gate_callee (f := 20) rfl ?_); refine goesL_ (some 32) rfl rfl Try.func20 (by kernel_rfl) rfl #[.string (⟨#[109, 47, 97]⟩ : ByteArray), .string t113] rfl (by (try simp only [List.map_toArray, List.map_cons, List.map_nil]); first | done | rfl | (simp only [List.length_drop, List.length_take]; rfl)) ?_; (with_reducible refine (key_Id.calls (⟨#[109, 47, 97]⟩ : ByteArray) t113 t121 false _ A5.out).mono ?_); rintro e w32 ⟨rfl, hb⟩; refine ⟨_, rfl, ?_⟩; have n0_ := Aside0.mk (below_step (by repeat (first | (with_reducible first | exact HB.out | apply below_alloc | apply pw_below_drewN | apply below_drew1) | exact HB.out)) hb); clear HB; have HB := n0_; clear n0_; (try clear hb); (try clear hb2); (try clear hk); (try clear hi)) | ((with_reducible refine gate_callee (f := 14) rfl ?_); refine goesL_ (some 36) rfl rfl Try.func14 (by kernel_rfl) rfl #[.string (⟨#[122]⟩ : ByteArray)] rfl (by (try simp only [List.map_toArray, List.map_cons, List.map_nil]); first | done | rfl | (simp only [List.length_drop, List.length_take]; rfl)) ?_; (with_reducible refine (key_Flag.calls (⟨#[122]⟩ : ByteArray) t123 true _ A6.out).mono ?_); rintro e w33 ⟨rfl, hb⟩; refine ⟨_, rfl, ?_⟩; have n0_ := Aside0.mk (below_step (by repeat (first | (with_reducible first | exact HB.out | apply below_alloc | apply pw_below_drewN | apply below_drew1) | exact HB.out)) hb); clear HB; have HB := n0_; clear n0_; (try clear hb); (try clear hb2); (try clear hk); (try clear hi)) | (go_at_call 16; (with_reducible refine (key_Check.calls t113 true _ A17.out).mono ?_); rintro e w34 ⟨rfl, hb⟩; have n0_ := Aside0.mk (below_step (by repeat (first | (with_reducible first | exact HB.out | apply below_alloc | apply pw_below_drewN | apply below_drew1) | exact HB.out)) hb); clear HB; have HB := n0_; clear n0_; (try clear hb); (try clear hb2); (try clear hk); (try clear hi)) | (go_at_call 16; (with_reducible refine (key_Check.calls (⟨#[97, 32, 98]⟩ : ByteArray) false _ A19.out).mono ?_); rintro e w35 ⟨rfl, hb⟩; have n0_ := Aside0.mk (below_step (by repeat (first | (with_reducible first | exact HB.out | apply below_alloc | apply pw_below_drewN | apply below_drew1) | exact HB.out)) hb); clear HB; have HB := n0_; clear n0_; (try clear hb); (try clear hb2); (try clear hk); (try clear hi)) | (go_at_call 18; (with_reducible refine (key_Name.calls (⟨#[120, 57]⟩ : ByteArray) true _ A21.out).mono ?_); rintro e w36 ⟨rfl, hb⟩; have n0_ := Aside0.mk (below_step (by repeat (first | (with_reducible first | exact HB.out | apply below_alloc | apply pw_below_drewN | apply below_drew1) | exact HB.out)) hb); clear HB; have HB := n0_; clear n0_; (try clear hb); (try clear hb2); (try clear hk); (try clear hi)) | (go_at_call 18; (with_reducible refine (key_Name.calls (⟨#[]⟩ : ByteArray) false _ A23.out).mono ?_); rintro e w37 ⟨rfl, hb⟩; have n0_ := Aside0.mk (below_step (by repeat (first | (with_reducible first | exact HB.out | apply below_alloc | apply pw_below_drewN | apply below_drew1) | exact HB.out)) hb); clear HB; have HB := n0_; clear n0_; (try clear hb); (try clear hb2); (try clear hk); (try clear hi)) | (go_at_call 22; (with_reducible refine (key_Under.calls (⟨#[109, 47, 97, 47]⟩ : ByteArray) t113 true _ A25.out).mono ?_); rintro e w' ⟨rfl, ⟨nd, rfl⟩⟩) | (go_at_call 22; (with_reducible refine (key_Under.calls t113 t113 t130 _ A27.out).mono ?_); rintro e w' ⟨rfl, ⟨nd, rfl⟩⟩))
                                go_ret
                                exact ⟨by first | rfl | (simp [errW_none, errW_some] <;> rfl) | (simp [*, errW_none, errW_some] <;> rfl), by repeat (first | (with_reducible first | exact HB.out | apply below_alloc | apply pw_below_drewN | apply below_drew1) | exact HB.out)⟩
                              · replace c26 := Bool.eq_false_iff.mpr c26
                                subst c26
                                have H1 : (none) = some r := by rw [if_neg (show ¬ (false = true) by decide)] at H; exact H
                                clear H
                                have H := H1
                                clear H1
                                exact absurd H (by simp)
                          · replace c22 := Bool.eq_false_iff.mpr c22
                            subst c22
                            have H1 : (none) = some r := by rw [if_neg (show ¬ (false = true) by decide)] at H; exact H
                            clear H
                            have H := H1
                            clear H1
                            exact absurd H (by simp)
                      · replace c18 := Bool.eq_false_iff.mpr c18
                        subst c18
                        have H1 : (none) = some r := by rw [if_neg (show ¬ (false = true) by decide)] at H; exact H
                        clear H
                        have H := H1
                        clear H1
                        exact absurd H (by simp)
                    · replace c16 := Bool.eq_false_iff.mpr c16
                      subst c16
                      have H1 : (none) = some r := by rw [if_neg (show ¬ (false = true) by decide)] at H; exact H
                      clear H
                      have H := H1
                      clear H1
                      exact absurd H (by simp)
                  · rw [if_neg c15] at H
                    exact absurd H (by simp)
              · replace c13 := Bool.eq_false_iff.mpr c13
                subst c13
                have H1 : (none) = some r := by rw [if_neg (show ¬ (false = true) by decide)] at H; exact H
                clear H
                have H := H1
                clear H1
                exact absurd H (by simp)
            · rw [if_neg c12] at H
              exact absurd H (by simp)
          · replace c11 := Bool.eq_false_iff.mpr c11
            subst c11
            have H1 : (none) = some r := by rw [if_neg (show ¬ (false = true) by decide)] at H; exact H
            clear H
            have H := H1
            clear H1
            exact absurd H (by simp)
        · rw [if_neg c10] at H
          exact absurd H (by simp)
    · replace c8 := Bool.eq_false_iff.mpr c8
      subst c8
      have H1 : (none) = some r := by rw [if_neg (show ¬ (false = true) by decide)] at H; exact H
      clear H
      have H := H1
      clear H1
      exact absurd H (by simp)
  · rw [if_neg c7] at H
    exact absurd H (by simp)

/-! ### batonref02_Name: function 19 -/
mutual
def batonref02_Name.j0 : Nat → ByteArray → Bool → Option (Bool)
  | 0, _, _ => none
  | k + 1, x0, x11 => if x11 = true then (some false) else (batonref02_Name.l0 k x0 0)
def batonref02_Name.l0 : Nat → ByteArray → Int → Option (Bool)
  | 0, _, _ => none
  | k + 1, x0, x3 => if x3 < (x0.size : Int) then (if 0 ≤ x3 then (if (bt x0 x3) < 97 then (if (bt x0 x3) < 48 then (some false) else (if (bt x0 x3) > 57 then (some false) else (batonref02_Name.l0 k x0 (wrap64 (x3 + 1))))) else (if (bt x0 x3) > 122 then (if (bt x0 x3) < 48 then (some false) else (if (bt x0 x3) > 57 then (some false) else (batonref02_Name.l0 k x0 (wrap64 (x3 + 1))))) else (batonref02_Name.l0 k x0 (wrap64 (x3 + 1))))) else (none)) else (some true)
end
def batonref02_Name.f (k : Nat) (a0 : ByteArray) : Option (Bool) := if (a0.size : Int) < 1 then (batonref02_Name.j0 k a0 true) else (batonref02_Name.j0 k a0 (decide ((a0.size : Int) > 12)))
theorem batonref02_Name.mono_l : ∀ k, (∀ y0 y1, LeO (batonref02_Name.j0 k y0 y1) (batonref02_Name.j0 (k + 1) y0 y1)) ∧ (∀ y0 y1, LeO (batonref02_Name.l0 k y0 y1) (batonref02_Name.l0 (k + 1) y0 y1))
  | 0 => ⟨fun _ _ r h => by simp [batonref02_Name.j0] at h, fun _ _ r h => by simp [batonref02_Name.l0] at h⟩
  | k + 1 => by
    obtain ⟨ih0, ih1⟩ := batonref02_Name.mono_l k
    refine ⟨?_, ?_⟩
    · intro y0 y1
      unfold batonref02_Name.j0
      repeat' first
      | (with_reducible exact ih0 _ _)
      | (with_reducible exact ih1 _ _)
      | (with_reducible exact LeO.refl _)
      | (with_reducible exact LeO.none _)
      | (with_reducible refine LeO.ite ?_ ?_)
      | (with_reducible refine LeO.bind ?_ (fun _ => ?_))
      | exact ih0 _ _
      | exact ih1 _ _
      | exact LeO.none _
      | refine LeO.ite ?_ ?_
      | refine LeO.bind ?_ (fun _ => ?_)
    · intro y0 y1
      unfold batonref02_Name.l0
      repeat' first
      | (with_reducible exact ih0 _ _)
      | (with_reducible exact ih1 _ _)
      | (with_reducible exact LeO.refl _)
      | (with_reducible exact LeO.none _)
      | (with_reducible refine LeO.ite ?_ ?_)
      | (with_reducible refine LeO.bind ?_ (fun _ => ?_))
      | exact ih0 _ _
      | exact ih1 _ _
      | exact LeO.none _
      | refine LeO.ite ?_ ?_
      | refine LeO.bind ?_ (fun _ => ?_)
theorem batonref02_Name.mono : ∀ a0 k, LeO (batonref02_Name.f k a0) (batonref02_Name.f (k + 1) a0) := by
  intro a0 k
  obtain ⟨ih0, ih1⟩ := batonref02_Name.mono_l k
  unfold batonref02_Name.f
  repeat' first
      | (with_reducible exact ih0 _ _)
      | (with_reducible exact ih1 _ _)
      | (with_reducible exact LeO.refl _)
      | (with_reducible exact LeO.none _)
      | (with_reducible refine LeO.ite ?_ ?_)
      | (with_reducible refine LeO.bind ?_ (fun _ => ?_))
      | exact ih0 _ _
      | exact ih1 _ _
      | exact LeO.none _
      | refine LeO.ite ?_ ?_
      | refine LeO.bind ?_ (fun _ => ?_)
set_option maxHeartbeats 8000000 in
set_option maxRecDepth 100000 in
theorem batonref02_Name.calls (k : Nat) (a0 : ByteArray) (r : Bool) (w : World) (h : batonref02_Name.f k a0 = some r) :
    Calls Try.prog 19 #[.string a0] w fun e w' => e = .returned (.bool r) ∧ Drawn0 w w' := by
  have H : (if (a0.size : Int) < 1 then (batonref02_Name.j0 k a0 true) else (batonref02_Name.j0 k a0 (decide ((a0.size : Int) > 12)))) = some r := h
  clear h
  have HC2 := Aside0.mk H
  clear H
  go_enter Try.func19, Try.ntmps19
  go_upto_region 1 with (fail)
  go_cut [11] (fun v11 wc => ∃ (kq : Nat) (x11_1 : Bool), v11 = .bool x11_1 ∧ Aside0 (batonref02_Name.j0 kq a0 x11_1 = some r) ∧ Aside0 (kq ≤ k) ∧ Drawn0 w wc)
  case first =>
    have H := HC2.out
    clear HC2
    by_cases c3 : (a0.size : Int) < 1
    · rw [if_pos c3] at H
      have c3b0 : decide ((a0.size : Int) < 1) = true := decide_eq_true c3
      have c3b1 : decide (a0.size < 1) = true := decide_eq_true (by omega)
      clear c3
      (first | rw [c3b0] | (simp only [i64_w, i32_w]; rw [c3b0]) | skip)
      have H' := Aside0.mk H
      clear H
      go_wp2
      go_meet
      case rel => exact ⟨_, (true), (by first | rfl | (simp; done) | (simp [*]; done)), H', ⟨by first | omega | exact Nat.le_refl _⟩, by repeat (first | exact Drawn0.refl _ | apply Drawn0.step)⟩
    · rw [if_neg c3] at H
      have c3b0 : decide ((a0.size : Int) < 1) = false := decide_eq_false c3
      have c3b1 : decide (a0.size < 1) = false := decide_eq_false (by omega)
      clear c3
      (first | rw [c3b0] | (simp only [i64_w, i32_w]; rw [c3b0]) | skip)
      have H' := Aside0.mk H
      clear H
      go_wp2
      go_meet
      case rel => exact ⟨_, (decide ((a0.size : Int) > 12)), (by first | rfl | (simp; done) | (simp [*]; done)), H', ⟨by first | omega | exact Nat.le_refl _⟩, by repeat (first | exact Drawn0.refl _ | apply Drawn0.step)⟩
  case rest =>
    clear HC2
    try clear c1
    try clear p2
    try clear c3
    try clear c3b0
    try clear c3b1
    obtain ⟨kq, x11_1, rfl, HA, HJ1, ⟨mc1, rfl⟩⟩ := hcut
    cases kq with
    | zero => exact absurd HA.out (by simp [batonref02_Name.j0])
    | succ kj1 =>
      have H := HA.out
      clear HA
      simp only [batonref02_Name.j0] at H
      by_cases c4 : x11_1 = true
      · subst c4
        have H1 : (some false) = some r := by rw [if_pos rfl] at H; exact H
        clear H
        have H := H1
        clear H1
        obtain rfl := Option.some.inj H
        go_wp2
        go_ret
        exact ⟨by first | rfl | (simp; done) | (simp [*]; done), by repeat (first | exact Drawn0.refl _ | apply Drawn0.step)⟩
      · replace c4 := Bool.eq_false_iff.mpr c4
        subst c4
        have H1 : (batonref02_Name.l0 kj1 a0 0) = some r := by rw [if_neg (show ¬ (false = true) by decide)] at H; exact H
        clear H
        have H := H1
        clear H1
        have H' := Aside0.mk H
        clear H
        go_wp2
        go_loopg [3] kj1 (fun kq v3 w' => ∃ (x3_2 : Int), v3 = .int .i64 x3_2 ∧ Aside0 (batonref02_Name.l0 kq a0 x3_2 = some r) ∧ Aside0 (kq ≤ kj1) ∧ Drawn0 w w')
        case atStart => exact ⟨(0), (by first | rfl | (simp; done) | (simp [*]; done)), H', ⟨Nat.le_refl _⟩, by repeat (first | exact Drawn0.refl _ | apply Drawn0.step)⟩
        case round =>
          clear H'
          try clear c1
          try clear p2
          try clear c3
          try clear c3b0
          try clear c3b1
          try clear c4
          try clear p2
          obtain ⟨x3_2, rfl, HA, HK2, ⟨m2, rfl⟩⟩ := hrel
          cases gk with
          | zero => exact absurd HA.out (by simp [batonref02_Name.l0])
          | succ k2 =>
            have H := HA.out
            clear HA
            simp only [batonref02_Name.l0] at H
            by_cases c5 : x3_2 < (a0.size : Int)
            · rw [if_pos c5] at H
              have c5b0 : decide (x3_2 < (a0.size : Int)) = true := decide_eq_true c5
              clear c5
              by_cases c6 : 0 ≤ x3_2
              · rw [if_pos c6] at H
                have c6b0 : decide (0 ≤ x3_2) = true := decide_eq_true c6
                clear c6
                by_cases c8 : (bt a0 x3_2) < 97
                · rw [if_pos c8] at H
                  have c8b0 : decide ((bt a0 x3_2) < 97) = true := decide_eq_true c8
                  clear c8
                  by_cases c10 : (bt a0 x3_2) < 48
                  · rw [if_pos c10] at H
                    have c10b0 : decide ((bt a0 x3_2) < 48) = true := decide_eq_true c10
                    clear c10
                    obtain rfl := Option.some.inj H
                    have p7 : 0 ≤ (x3_2 : Int) := of_decide_eq_true (by first | (with_reducible assumption) | assumption)
                    have q7 : x3_2 < (a0.size : Int) := of_decide_eq_true (by first | (with_reducible assumption) | assumption)
                    have hx7 := bt_at a0 x3_2
                    replace p7 := eq_true p7
                    replace q7 := eq_true q7
                    have p9 : 0 ≤ (x3_2 : Int) := of_decide_eq_true (by first | (with_reducible assumption) | assumption)
                    have q9 : x3_2 < (a0.size : Int) := of_decide_eq_true (by first | (with_reducible assumption) | assumption)
                    have hx9 := bt_at a0 x3_2
                    replace p9 := eq_true p9
                    replace q9 := eq_true q9
                    go_wp2
                    go_ret
                    exact ⟨by first | rfl | (simp; done) | (simp [*]; done), by repeat (first | exact Drawn0.refl _ | apply Drawn0.step)⟩
                  · rw [if_neg c10] at H
                    have c10b0 : decide ((bt a0 x3_2) < 48) = false := decide_eq_false c10
                    clear c10
                    by_cases c12 : (bt a0 x3_2) > 57
                    · rw [if_pos c12] at H
                      have c12b0 : decide (57 < (bt a0 x3_2)) = true := decide_eq_true c12
                      clear c12
                      obtain rfl := Option.some.inj H
                      have p7 : 0 ≤ (x3_2 : Int) := of_decide_eq_true (by first | (with_reducible assumption) | assumption)
                      have q7 : x3_2 < (a0.size : Int) := of_decide_eq_true (by first | (with_reducible assumption) | assumption)
                      have hx7 := bt_at a0 x3_2
                      replace p7 := eq_true p7
                      replace q7 := eq_true q7
                      have p9 : 0 ≤ (x3_2 : Int) := of_decide_eq_true (by first | (with_reducible assumption) | assumption)
                      have q9 : x3_2 < (a0.size : Int) := of_decide_eq_true (by first | (with_reducible assumption) | assumption)
                      have hx9 := bt_at a0 x3_2
                      replace p9 := eq_true p9
                      replace q9 := eq_true q9
                      have p11 : 0 ≤ (x3_2 : Int) := of_decide_eq_true (by first | (with_reducible assumption) | assumption)
                      have q11 : x3_2 < (a0.size : Int) := of_decide_eq_true (by first | (with_reducible assumption) | assumption)
                      have hx11 := bt_at a0 x3_2
                      replace p11 := eq_true p11
                      replace q11 := eq_true q11
                      go_wp2
                      go_ret
                      exact ⟨by first | rfl | (simp; done) | (simp [*]; done), by repeat (first | exact Drawn0.refl _ | apply Drawn0.step)⟩
                    · rw [if_neg c12] at H
                      have c12b0 : decide (57 < (bt a0 x3_2)) = false := decide_eq_false c12
                      clear c12
                      have H' := Aside0.mk H
                      clear H
                      have p7 : 0 ≤ (x3_2 : Int) := of_decide_eq_true (by first | (with_reducible assumption) | assumption)
                      have q7 : x3_2 < (a0.size : Int) := of_decide_eq_true (by first | (with_reducible assumption) | assumption)
                      have hx7 := bt_at a0 x3_2
                      replace p7 := eq_true p7
                      replace q7 := eq_true q7
                      have p9 : 0 ≤ (x3_2 : Int) := of_decide_eq_true (by first | (with_reducible assumption) | assumption)
                      have q9 : x3_2 < (a0.size : Int) := of_decide_eq_true (by first | (with_reducible assumption) | assumption)
                      have hx9 := bt_at a0 x3_2
                      replace p9 := eq_true p9
                      replace q9 := eq_true q9
                      have p11 : 0 ≤ (x3_2 : Int) := of_decide_eq_true (by first | (with_reducible assumption) | assumption)
                      have q11 : x3_2 < (a0.size : Int) := of_decide_eq_true (by first | (with_reducible assumption) | assumption)
                      have hx11 := bt_at a0 x3_2
                      replace p11 := eq_true p11
                      replace q11 := eq_true q11
                      go_wp2
                      go_roundg k2
                      case measure => have := HJ1.out; have := HK2.out; omega
                      case rel => exact ⟨(wrap64 (x3_2 + 1)), (by first | rfl | (simp; done) | (simp [*]; done)), H', ⟨by have := HJ1.out; have := HK2.out; omega⟩, by repeat (first | exact Drawn0.refl _ | apply Drawn0.step)⟩
                · rw [if_neg c8] at H
                  have c8b0 : decide ((bt a0 x3_2) < 97) = false := decide_eq_false c8
                  clear c8
                  by_cases c14 : (bt a0 x3_2) > 122
                  · rw [if_pos c14] at H
                    have c14b0 : decide (122 < (bt a0 x3_2)) = true := decide_eq_true c14
                    clear c14
                    by_cases c16 : (bt a0 x3_2) < 48
                    · rw [if_pos c16] at H
                      have c16b0 : decide ((bt a0 x3_2) < 48) = true := decide_eq_true c16
                      clear c16
                      obtain rfl := Option.some.inj H
                      have p7 : 0 ≤ (x3_2 : Int) := of_decide_eq_true (by first | (with_reducible assumption) | assumption)
                      have q7 : x3_2 < (a0.size : Int) := of_decide_eq_true (by first | (with_reducible assumption) | assumption)
                      have hx7 := bt_at a0 x3_2
                      replace p7 := eq_true p7
                      replace q7 := eq_true q7
                      have p13 : 0 ≤ (x3_2 : Int) := of_decide_eq_true (by first | (with_reducible assumption) | assumption)
                      have q13 : x3_2 < (a0.size : Int) := of_decide_eq_true (by first | (with_reducible assumption) | assumption)
                      have hx13 := bt_at a0 x3_2
                      replace p13 := eq_true p13
                      replace q13 := eq_true q13
                      have p15 : 0 ≤ (x3_2 : Int) := of_decide_eq_true (by first | (with_reducible assumption) | assumption)
                      have q15 : x3_2 < (a0.size : Int) := of_decide_eq_true (by first | (with_reducible assumption) | assumption)
                      have hx15 := bt_at a0 x3_2
                      replace p15 := eq_true p15
                      replace q15 := eq_true q15
                      go_wp2
                      go_ret
                      exact ⟨by first | rfl | (simp; done) | (simp [*]; done), by repeat (first | exact Drawn0.refl _ | apply Drawn0.step)⟩
                    · rw [if_neg c16] at H
                      have c16b0 : decide ((bt a0 x3_2) < 48) = false := decide_eq_false c16
                      clear c16
                      by_cases c18 : (bt a0 x3_2) > 57
                      · rw [if_pos c18] at H
                        have c18b0 : decide (57 < (bt a0 x3_2)) = true := decide_eq_true c18
                        clear c18
                        obtain rfl := Option.some.inj H
                        have p7 : 0 ≤ (x3_2 : Int) := of_decide_eq_true (by first | (with_reducible assumption) | assumption)
                        have q7 : x3_2 < (a0.size : Int) := of_decide_eq_true (by first | (with_reducible assumption) | assumption)
                        have hx7 := bt_at a0 x3_2
                        replace p7 := eq_true p7
                        replace q7 := eq_true q7
                        have p13 : 0 ≤ (x3_2 : Int) := of_decide_eq_true (by first | (with_reducible assumption) | assumption)
                        have q13 : x3_2 < (a0.size : Int) := of_decide_eq_true (by first | (with_reducible assumption) | assumption)
                        have hx13 := bt_at a0 x3_2
                        replace p13 := eq_true p13
                        replace q13 := eq_true q13
                        have p15 : 0 ≤ (x3_2 : Int) := of_decide_eq_true (by first | (with_reducible assumption) | assumption)
                        have q15 : x3_2 < (a0.size : Int) := of_decide_eq_true (by first | (with_reducible assumption) | assumption)
                        have hx15 := bt_at a0 x3_2
                        replace p15 := eq_true p15
                        replace q15 := eq_true q15
                        have p17 : 0 ≤ (x3_2 : Int) := of_decide_eq_true (by first | (with_reducible assumption) | assumption)
                        have q17 : x3_2 < (a0.size : Int) := of_decide_eq_true (by first | (with_reducible assumption) | assumption)
                        have hx17 := bt_at a0 x3_2
                        replace p17 := eq_true p17
                        replace q17 := eq_true q17
                        go_wp2
                        go_ret
                        exact ⟨by first | rfl | (simp; done) | (simp [*]; done), by repeat (first | exact Drawn0.refl _ | apply Drawn0.step)⟩
                      · rw [if_neg c18] at H
                        have c18b0 : decide (57 < (bt a0 x3_2)) = false := decide_eq_false c18
                        clear c18
                        have H' := Aside0.mk H
                        clear H
                        have p7 : 0 ≤ (x3_2 : Int) := of_decide_eq_true (by first | (with_reducible assumption) | assumption)
                        have q7 : x3_2 < (a0.size : Int) := of_decide_eq_true (by first | (with_reducible assumption) | assumption)
                        have hx7 := bt_at a0 x3_2
                        replace p7 := eq_true p7
                        replace q7 := eq_true q7
                        have p13 : 0 ≤ (x3_2 : Int) := of_decide_eq_true (by first | (with_reducible assumption) | assumption)
                        have q13 : x3_2 < (a0.size : Int) := of_decide_eq_true (by first | (with_reducible assumption) | assumption)
                        have hx13 := bt_at a0 x3_2
                        replace p13 := eq_true p13
                        replace q13 := eq_true q13
                        have p15 : 0 ≤ (x3_2 : Int) := of_decide_eq_true (by first | (with_reducible assumption) | assumption)
                        have q15 : x3_2 < (a0.size : Int) := of_decide_eq_true (by first | (with_reducible assumption) | assumption)
                        have hx15 := bt_at a0 x3_2
                        replace p15 := eq_true p15
                        replace q15 := eq_true q15
                        have p17 : 0 ≤ (x3_2 : Int) := of_decide_eq_true (by first | (with_reducible assumption) | assumption)
                        have q17 : x3_2 < (a0.size : Int) := of_decide_eq_true (by first | (with_reducible assumption) | assumption)
                        have hx17 := bt_at a0 x3_2
                        replace p17 := eq_true p17
                        replace q17 := eq_true q17
                        go_wp2
                        go_roundg k2
                        case measure => have := HJ1.out; have := HK2.out; omega
                        case rel => exact ⟨(wrap64 (x3_2 + 1)), (by first | rfl | (simp; done) | (simp [*]; done)), H', ⟨by have := HJ1.out; have := HK2.out; omega⟩, by repeat (first | exact Drawn0.refl _ | apply Drawn0.step)⟩
                  · rw [if_neg c14] at H
                    have c14b0 : decide (122 < (bt a0 x3_2)) = false := decide_eq_false c14
                    clear c14
                    have H' := Aside0.mk H
                    clear H
                    have p7 : 0 ≤ (x3_2 : Int) := of_decide_eq_true (by first | (with_reducible assumption) | assumption)
                    have q7 : x3_2 < (a0.size : Int) := of_decide_eq_true (by first | (with_reducible assumption) | assumption)
                    have hx7 := bt_at a0 x3_2
                    replace p7 := eq_true p7
                    replace q7 := eq_true q7
                    have p13 : 0 ≤ (x3_2 : Int) := of_decide_eq_true (by first | (with_reducible assumption) | assumption)
                    have q13 : x3_2 < (a0.size : Int) := of_decide_eq_true (by first | (with_reducible assumption) | assumption)
                    have hx13 := bt_at a0 x3_2
                    replace p13 := eq_true p13
                    replace q13 := eq_true q13
                    go_wp2
                    go_roundg k2
                    case measure => have := HJ1.out; have := HK2.out; omega
                    case rel => exact ⟨(wrap64 (x3_2 + 1)), (by first | rfl | (simp; done) | (simp [*]; done)), H', ⟨by have := HJ1.out; have := HK2.out; omega⟩, by repeat (first | exact Drawn0.refl _ | apply Drawn0.step)⟩
              · rw [if_neg c6] at H
                exact absurd H (by simp)
            · rw [if_neg c5] at H
              have c5b0 : decide (x3_2 < (a0.size : Int)) = false := decide_eq_false c5
              clear c5
              obtain rfl := Option.some.inj H
              go_wp2
              go_ret
              exact ⟨by first | rfl | (simp; done) | (simp [*]; done), by repeat (first | exact Drawn0.refl _ | apply Drawn0.step)⟩

end Go.Proofs.Ytfpkkjcefdighaa.PM
