-- made by a program of this session (wip/tools/myprint.py over the kit's print) out of the translation; Lean checks it
import Derived.Test.YtfpkkjcefdighaaPM0
import Derived.Test.YtfpkkjcefdighaaPM3
import Derived.Test.YtfpkkjcefdighaaPM5
import Derived.Test.YtfpkkjcefdighaaPM6
import Derived.Test.YtfpkkjcefdighaaPM7
import Derived.Test.YtfpkkjcefdighaaPM9
import Derived.Test.YtfpkkjcefdighaaPM12
import Derived.Test.YtfpkkjcefdighaaPM13
namespace Go.Proofs.Ytfpkkjcefdighaa.PM
open Go.RowKit Go.Proofs.YtfpkkjcefdighaaW.PrintWords Go.Proofs.YtfpkkjcefdighaaW.PrintLast Go.Proofs.YtfpkkjcefdighaaW.PrintMore
attribute [local go_sem] max2_int min2_int max_two min_two max_three min_three max_four min_four   -- for this text's walks alone
set_option linter.unusedVariables false
set_option linter.unusedSimpArgs false

/-! ### batonlaw02_KeyBack: function 5 -/
def batonlaw02_KeyBack.f (a0 : Int) (a1 : ByteArray) (a2 : Int) : Option (Bool) := if (a1.size : Int) > 100 then ((batonlaw02_live.f).bind fun t168 => (some t168)) else ((key_Ticket.f a0 a1 a2).bind fun bt169 => ((key_Prefix.f a0 a1).bind fun bt171 => (if bt169.2 = true then ((key_Id.f bt171.1 bt169.1).bind fun bt176 => (if bt171.2 = true then (if bt176.2 = true then (if bt176.1 = a2 then ((key_Check.f bt169.1).bind fun t178 => (if t178 = true then ((key_Under.f bt171.1 bt169.1).bind fun t179 => (if t179 = true then ((key_Name.f a1).bind fun t180 => (if t180 = true then (if a0 ≥ 1 then (if a0 ≤ 8 then ((batonlaw02_live.f).bind fun t181 => (some t181)) else (none)) else (none)) else (none))) else (none))) else (none))) else (none)) else (none)) else (none))) else (if bt169.1.toList = ([] : List UInt8) then (if bt171.2 = true then (if a2 < 0 then ((batonlaw02_live.f).bind fun t173 => (some t173)) else (if a2 > 1099511627775 then ((batonlaw02_live.f).bind fun t174 => (some t174)) else (none))) else ((batonlaw02_live.f).bind fun t175 => (some t175))) else (none)))))
set_option maxHeartbeats 8000000 in
set_option maxRecDepth 100000 in
theorem batonlaw02_KeyBack.calls (a0 : Int) (a1 : ByteArray) (a2 : Int) (r : Bool) (w : World) (h : batonlaw02_KeyBack.f a0 a1 a2 = some r) :
    Calls Try.prog 5 #[.int .i64 a0, .string a1, .int .i64 a2] w fun e w' => e = .returned (.bool r) ∧ Below w.heap.size w w' := by
  have HB := Aside0.mk (Below.refl w.heap.size w)
  have H : (if (a1.size : Int) > 100 then ((batonlaw02_live.f).bind fun t168 => (some t168)) else ((key_Ticket.f a0 a1 a2).bind fun bt169 => ((key_Prefix.f a0 a1).bind fun bt171 => (if bt169.2 = true then ((key_Id.f bt171.1 bt169.1).bind fun bt176 => (if bt171.2 = true then (if bt176.2 = true then (if bt176.1 = a2 then ((key_Check.f bt169.1).bind fun t178 => (if t178 = true then ((key_Under.f bt171.1 bt169.1).bind fun t179 => (if t179 = true then ((key_Name.f a1).bind fun t180 => (if t180 = true then (if a0 ≥ 1 then (if a0 ≤ 8 then ((batonlaw02_live.f).bind fun t181 => (some t181)) else (none)) else (none)) else (none))) else (none))) else (none))) else (none)) else (none)) else (none))) else (if bt169.1.toList = ([] : List UInt8) then (if bt171.2 = true then (if a2 < 0 then ((batonlaw02_live.f).bind fun t173 => (some t173)) else (if a2 > 1099511627775 then ((batonlaw02_live.f).bind fun t174 => (some t174)) else (none))) else ((batonlaw02_live.f).bind fun t175 => (some t175))) else (none)))))) = some r := h
  clear h
  by_cases c4 : (a1.size : Int) > 100
  · rw [if_pos c4] at H
    have c4b0 : decide (100 < (a1.size : Int)) = true := decide_eq_true c4
    have c4b1 : decide (100 < a1.size) = true := decide_eq_true (by omega)
    clear c4
    replace H := Option.bind_eq_some_iff.mp H
    obtain ⟨t168, A50, H⟩ := H
    replace H : (some t168) = some r := H
    have A5 := Aside0.mk A50
    clear A50
    obtain rfl := Option.some.inj H
    go_enter Try.func5, Try.ntmps5
    go_wp2_with (first | ((with_reducible refine gate_callee (f := 9) rfl ?_); refine goesL_ (some 16) rfl rfl Try.func9 (by kernel_rfl) rfl #[] rfl (by (try simp only [List.map_toArray, List.map_cons, List.map_nil]); first | done | rfl | (simp only [List.length_drop, List.length_take]; rfl)) ?_; (with_reducible refine (batonlaw02_live.calls  t168 _ A5.out).mono ?_); rintro e w6 ⟨rfl, hb⟩; refine ⟨_, rfl, ?_⟩; have n0_ := Aside0.mk (below_step (by repeat (first | (with_reducible first | exact HB.out | apply below_alloc | apply pw_below_drewN | apply below_drew1) | exact HB.out)) hb); clear HB; have HB := n0_; clear n0_; (try clear hb); (try clear hb2); (try clear hk); (try clear hi)))
    go_ret
    exact ⟨by first | rfl | (simp [errW_none, errW_some] <;> rfl) | (simp [*, errW_none, errW_some] <;> rfl), by repeat (first | (with_reducible first | exact HB.out | apply below_alloc | apply pw_below_drewN | apply below_drew1) | exact HB.out)⟩
  · rw [if_neg c4] at H
    have c4b0 : decide (100 < (a1.size : Int)) = false := decide_eq_false c4
    have c4b1 : decide (100 < a1.size) = false := decide_eq_false (by omega)
    clear c4
    replace H := Option.bind_eq_some_iff.mp H
    obtain ⟨⟨t169, t170⟩, A70, H⟩ := H
    replace H : ((key_Prefix.f a0 a1).bind fun bt171 => (if t170 = true then ((key_Id.f bt171.1 t169).bind fun bt176 => (if bt171.2 = true then (if bt176.2 = true then (if bt176.1 = a2 then ((key_Check.f t169).bind fun t178 => (if t178 = true then ((key_Under.f bt171.1 t169).bind fun t179 => (if t179 = true then ((key_Name.f a1).bind fun t180 => (if t180 = true then (if a0 ≥ 1 then (if a0 ≤ 8 then ((batonlaw02_live.f).bind fun t181 => (some t181)) else (none)) else (none)) else (none))) else (none))) else (none))) else (none)) else (none)) else (none))) else (if t169.toList = ([] : List UInt8) then (if bt171.2 = true then (if a2 < 0 then ((batonlaw02_live.f).bind fun t173 => (some t173)) else (if a2 > 1099511627775 then ((batonlaw02_live.f).bind fun t174 => (some t174)) else (none))) else ((batonlaw02_live.f).bind fun t175 => (some t175))) else (none)))) = some r := H
    have A7 := Aside0.mk A70
    clear A70
    replace H := Option.bind_eq_some_iff.mp H
    obtain ⟨⟨t171, t172⟩, A80, H⟩ := H
    replace H : (if t170 = true then ((key_Id.f t171 t169).bind fun bt176 => (if t172 = true then (if bt176.2 = true then (if bt176.1 = a2 then ((key_Check.f t169).bind fun t178 => (if t178 = true then ((key_Under.f t171 t169).bind fun t179 => (if t179 = true then ((key_Name.f a1).bind fun t180 => (if t180 = true then (if a0 ≥ 1 then (if a0 ≤ 8 then ((batonlaw02_live.f).bind fun t181 => (some t181)) else (none)) else (none)) else (none))) else (none))) else (none))) else (none)) else (none)) else (none))) else (if t169.toList = ([] : List UInt8) then (if t172 = true then (if a2 < 0 then ((batonlaw02_live.f).bind fun t173 => (some t173)) else (if a2 > 1099511627775 then ((batonlaw02_live.f).bind fun t174 => (some t174)) else (none))) else ((batonlaw02_live.f).bind fun t175 => (some t175))) else (none))) = some r := H
    have A8 := Aside0.mk A80
    clear A80
    by_cases c9 : t170 = true
    · subst c9
      have H1 : ((key_Id.f t171 t169).bind fun bt176 => (if t172 = true then (if bt176.2 = true then (if bt176.1 = a2 then ((key_Check.f t169).bind fun t178 => (if t178 = true then ((key_Under.f t171 t169).bind fun t179 => (if t179 = true then ((key_Name.f a1).bind fun t180 => (if t180 = true then (if a0 ≥ 1 then (if a0 ≤ 8 then ((batonlaw02_live.f).bind fun t181 => (some t181)) else (none)) else (none)) else (none))) else (none))) else (none))) else (none)) else (none)) else (none))) = some r := by rw [if_pos rfl] at H; exact H
      clear H
      have H := H1
      clear H1
      replace H := Option.bind_eq_some_iff.mp H
      obtain ⟨⟨t176, t177⟩, A100, H⟩ := H
      replace H : (if t172 = true then (if t177 = true then (if t176 = a2 then ((key_Check.f t169).bind fun t178 => (if t178 = true then ((key_Under.f t171 t169).bind fun t179 => (if t179 = true then ((key_Name.f a1).bind fun t180 => (if t180 = true then (if a0 ≥ 1 then (if a0 ≤ 8 then ((batonlaw02_live.f).bind fun t181 => (some t181)) else (none)) else (none)) else (none))) else (none))) else (none))) else (none)) else (none)) else (none)) = some r := H
      have A10 := Aside0.mk A100
      clear A100
      by_cases c11 : t172 = true
      · subst c11
        have H1 : (if t177 = true then (if t176 = a2 then ((key_Check.f t169).bind fun t178 => (if t178 = true then ((key_Under.f t171 t169).bind fun t179 => (if t179 = true then ((key_Name.f a1).bind fun t180 => (if t180 = true then (if a0 ≥ 1 then (if a0 ≤ 8 then ((batonlaw02_live.f).bind fun t181 => (some t181)) else (none)) else (none)) else (none))) else (none))) else (none))) else (none)) else (none)) = some r := by rw [if_pos rfl] at H; exact H
        clear H
        have H := H1
        clear H1
        by_cases c12 : t177 = true
        · subst c12
          have H1 : (if t176 = a2 then ((key_Check.f t169).bind fun t178 => (if t178 = true then ((key_Under.f t171 t169).bind fun t179 => (if t179 = true then ((key_Name.f a1).bind fun t180 => (if t180 = true then (if a0 ≥ 1 then (if a0 ≤ 8 then ((batonlaw02_live.f).bind fun t181 => (some t181)) else (none)) else (none)) else (none))) else (none))) else (none))) else (none)) = some r := by rw [if_pos rfl] at H; exact H
          clear H
          have H := H1
          clear H1
          by_cases c13 : t176 = a2
          · rw [if_pos c13] at H
            have c13b0 : (t176 == a2) = true := beq_iff_eq.mpr c13
            have c13b1 : (t176 != a2) = false := bne_eq_false_iff_eq.mpr c13
            clear c13
            replace H := Option.bind_eq_some_iff.mp H
            obtain ⟨t178, A140, H⟩ := H
            replace H : (if t178 = true then ((key_Under.f t171 t169).bind fun t179 => (if t179 = true then ((key_Name.f a1).bind fun t180 => (if t180 = true then (if a0 ≥ 1 then (if a0 ≤ 8 then ((batonlaw02_live.f).bind fun t181 => (some t181)) else (none)) else (none)) else (none))) else (none))) else (none)) = some r := H
            have A14 := Aside0.mk A140
            clear A140
            by_cases c15 : t178 = true
            · subst c15
              have H1 : ((key_Under.f t171 t169).bind fun t179 => (if t179 = true then ((key_Name.f a1).bind fun t180 => (if t180 = true then (if a0 ≥ 1 then (if a0 ≤ 8 then ((batonlaw02_live.f).bind fun t181 => (some t181)) else (none)) else (none)) else (none))) else (none))) = some r := by rw [if_pos rfl] at H; exact H
              clear H
              have H := H1
              clear H1
              replace H := Option.bind_eq_some_iff.mp H
              obtain ⟨t179, A160, H⟩ := H
              replace H : (if t179 = true then ((key_Name.f a1).bind fun t180 => (if t180 = true then (if a0 ≥ 1 then (if a0 ≤ 8 then ((batonlaw02_live.f).bind fun t181 => (some t181)) else (none)) else (none)) else (none))) else (none)) = some r := H
              have A16 := Aside0.mk A160
              clear A160
              by_cases c17 : t179 = true
              · subst c17
                have H1 : ((key_Name.f a1).bind fun t180 => (if t180 = true then (if a0 ≥ 1 then (if a0 ≤ 8 then ((batonlaw02_live.f).bind fun t181 => (some t181)) else (none)) else (none)) else (none))) = some r := by rw [if_pos rfl] at H; exact H
                clear H
                have H := H1
                clear H1
                replace H := Option.bind_eq_some_iff.mp H
                obtain ⟨t180, A180, H⟩ := H
                replace H : (if t180 = true then (if a0 ≥ 1 then (if a0 ≤ 8 then ((batonlaw02_live.f).bind fun t181 => (some t181)) else (none)) else (none)) else (none)) = some r := H
                have A18 := Aside0.mk A180
                clear A180
                by_cases c19 : t180 = true
                · subst c19
                  have H1 : (if a0 ≥ 1 then (if a0 ≤ 8 then ((batonlaw02_live.f).bind fun t181 => (some t181)) else (none)) else (none)) = some r := by rw [if_pos rfl] at H; exact H
                  clear H
                  have H := H1
                  clear H1
                  by_cases c20 : a0 ≥ 1
                  · rw [if_pos c20] at H
                    have c20b0 : decide (1 ≤ a0) = true := decide_eq_true c20
                    clear c20
                    by_cases c21 : a0 ≤ 8
                    · rw [if_pos c21] at H
                      have c21b0 : decide (a0 ≤ 8) = true := decide_eq_true c21
                      clear c21
                      replace H := Option.bind_eq_some_iff.mp H
                      obtain ⟨t181, A220, H⟩ := H
                      replace H : (some t181) = some r := H
                      have A22 := Aside0.mk A220
                      clear A220
                      obtain rfl := Option.some.inj H
                      go_enter Try.func5, Try.ntmps5
                      go_wp2_with (first | ((with_reducible refine gate_callee (f := 12) rfl ?_); refine goesL_ (some 21) rfl rfl Try.func12 (by kernel_rfl) rfl #[.int .i64 a0, .string a1, .int .i64 a2] rfl (by (try simp only [List.map_toArray, List.map_cons, List.map_nil]); first | done | rfl | (simp only [List.length_drop, List.length_take]; rfl)) ?_; (with_reducible refine (key_Ticket.calls a0 a1 a2 t169 true _ A7.out).mono ?_); rintro e w23 ⟨rfl, hb⟩; refine ⟨_, rfl, ?_⟩; have n0_ := Aside0.mk (below_step (by repeat (first | (with_reducible first | exact HB.out | apply below_alloc | apply pw_below_drewN | apply below_drew1) | exact HB.out)) hb); clear HB; have HB := n0_; clear n0_; (try clear hb); (try clear hb2); (try clear hk); (try clear hi)) | ((with_reducible refine gate_callee (f := 10) rfl ?_); refine goesL_ (some 27) rfl rfl Try.func10 (by kernel_rfl) rfl #[.int .i64 a0, .string a1] rfl (by (try simp only [List.map_toArray, List.map_cons, List.map_nil]); first | done | rfl | (simp only [List.length_drop, List.length_take]; rfl)) ?_; (with_reducible refine (key_Prefix.calls a0 a1 t171 true _ A8.out).mono ?_); rintro e w24 ⟨rfl, hb⟩; refine ⟨_, rfl, ?_⟩; have n0_ := Aside0.mk (below_step (by repeat (first | (with_reducible first | exact HB.out | apply below_alloc | apply pw_below_drewN | apply below_drew1) | exact HB.out)) hb); clear HB; have HB := n0_; clear n0_; (try clear hb); (try clear hb2); (try clear hk); (try clear hi)) | ((with_reducible refine gate_callee (f := 20) rfl ?_); refine goesL_ (some 52) rfl rfl Try.func20 (by kernel_rfl) rfl #[.string t171, .string t169] rfl (by (try simp only [List.map_toArray, List.map_cons, List.map_nil]); first | done | rfl | (simp only [List.length_drop, List.length_take]; rfl)) ?_; (with_reducible refine (key_Id.calls t171 t169 t176 true _ A10.out).mono ?_); rintro e w25 ⟨rfl, hb⟩; refine ⟨_, rfl, ?_⟩; have n0_ := Aside0.mk (below_step (by repeat (first | (with_reducible first | exact HB.out | apply below_alloc | apply pw_below_drewN | apply below_drew1) | exact HB.out)) hb); clear HB; have HB := n0_; clear n0_; (try clear hb); (try clear hb2); (try clear hk); (try clear hi)) | (go_at_call 16; (with_reducible refine (key_Check.calls t169 true _ A14.out).mono ?_); rintro e w26 ⟨rfl, hb⟩; have n0_ := Aside0.mk (below_step (by repeat (first | (with_reducible first | exact HB.out | apply below_alloc | apply pw_below_drewN | apply below_drew1) | exact HB.out)) hb); clear HB; have HB := n0_; clear n0_; (try clear hb); (try clear hb2); (try clear hk); (try clear hi)) | (go_at_call 22; (with_reducible refine (key_Under.calls t171 t169 true _ A16.out).mono ?_); rintro e w' ⟨rfl, ⟨nd, rfl⟩⟩) | (go_at_call 18; (with_reducible refine (key_Name.calls a1 true _ A18.out).mono ?_); rintro e w27 ⟨rfl, hb⟩; have n0_ := Aside0.mk (below_step (by repeat (first | (with_reducible first | exact HB.out | apply below_alloc | apply pw_below_drewN | apply below_drew1) | exact HB.out)) hb); clear HB; have HB := n0_; clear n0_; (try clear hb); (try clear hb2); (try clear hk); (try clear hi)) | (go_at_call 9; (with_reducible refine (batonlaw02_live.calls  t181 _ A22.out).mono ?_); rintro e w28 ⟨rfl, hb⟩; have n0_ := Aside0.mk (below_step (by repeat (first | (with_reducible first | exact HB.out | apply below_alloc | apply pw_below_drewN | apply below_drew1) | exact HB.out)) hb); clear HB; have HB := n0_; clear n0_; (try clear hb); (try clear hb2); (try clear hk); (try clear hi)))
                      go_ret
                      exact ⟨by first | rfl | (simp [errW_none, errW_some] <;> rfl) | (simp [*, errW_none, errW_some] <;> rfl), by repeat (first | (with_reducible first | exact HB.out | apply below_alloc | apply pw_below_drewN | apply below_drew1) | exact HB.out)⟩
                    · rw [if_neg c21] at H
                      exact absurd H (by simp)
                  · rw [if_neg c20] at H
                    exact absurd H (by simp)
                · replace c19 := Bool.eq_false_iff.mpr c19
                  subst c19
                  have H1 : (none) = some r := by rw [if_neg (show ¬ (false = true) by decide)] at H; exact H
                  clear H
                  have H := H1
                  clear H1
                  exact absurd H (by simp)
              · replace c17 := Bool.eq_false_iff.mpr c17
                subst c17
                have H1 : (none) = some r := by rw [if_neg (show ¬ (false = true) by decide)] at H; exact H
                clear H
                have H := H1
                clear H1
                exact absurd H (by simp)
            · replace c15 := Bool.eq_false_iff.mpr c15
              subst c15
              have H1 : (none) = some r := by rw [if_neg (show ¬ (false = true) by decide)] at H; exact H
              clear H
              have H := H1
              clear H1
              exact absurd H (by simp)
          · rw [if_neg c13] at H
            exact absurd H (by simp)
        · replace c12 := Bool.eq_false_iff.mpr c12
          subst c12
          have H1 : (none) = some r := by rw [if_neg (show ¬ (false = true) by decide)] at H; exact H
          clear H
          have H := H1
          clear H1
          exact absurd H (by simp)
      · replace c11 := Bool.eq_false_iff.mpr c11
        subst c11
        have H1 : (none) = some r := by rw [if_neg (show ¬ (false = true) by decide)] at H; exact H
        clear H
        have H := H1
        clear H1
        exact absurd H (by simp)
    · replace c9 := Bool.eq_false_iff.mpr c9
      subst c9
      have H1 : (if t169.toList = ([] : List UInt8) then (if t172 = true then (if a2 < 0 then ((batonlaw02_live.f).bind fun t173 => (some t173)) else (if a2 > 1099511627775 then ((batonlaw02_live.f).bind fun t174 => (some t174)) else (none))) else ((batonlaw02_live.f).bind fun t175 => (some t175))) else (none)) = some r := by rw [if_neg (show ¬ (false = true) by decide)] at H; exact H
      clear H
      have H := H1
      clear H1
      by_cases c29 : t169.toList = ([] : List UInt8)
      · rw [if_pos c29] at H
        have c29b0 : (t169.toList == ([] : List UInt8)) = true := beq_iff_eq.mpr c29
        have c29b1 : (t169.toList != ([] : List UInt8)) = false := bne_eq_false_iff_eq.mpr c29
        clear c29
        by_cases c30 : t172 = true
        · subst c30
          have H1 : (if a2 < 0 then ((batonlaw02_live.f).bind fun t173 => (some t173)) else (if a2 > 1099511627775 then ((batonlaw02_live.f).bind fun t174 => (some t174)) else (none))) = some r := by rw [if_pos rfl] at H; exact H
          clear H
          have H := H1
          clear H1
          by_cases c31 : a2 < 0
          · rw [if_pos c31] at H
            have c31b0 : decide (a2 < 0) = true := decide_eq_true c31
            clear c31
            replace H := Option.bind_eq_some_iff.mp H
            obtain ⟨t173, A320, H⟩ := H
            replace H : (some t173) = some r := H
            have A32 := Aside0.mk A320
            clear A320
            obtain rfl := Option.some.inj H
            go_enter Try.func5, Try.ntmps5
            go_wp2_with (first | ((with_reducible refine gate_callee (f := 12) rfl ?_); refine goesL_ (some 21) rfl rfl Try.func12 (by kernel_rfl) rfl #[.int .i64 a0, .string a1, .int .i64 a2] rfl (by (try simp only [List.map_toArray, List.map_cons, List.map_nil]); first | done | rfl | (simp only [List.length_drop, List.length_take]; rfl)) ?_; (with_reducible refine (key_Ticket.calls a0 a1 a2 t169 false _ A7.out).mono ?_); rintro e w33 ⟨rfl, hb⟩; refine ⟨_, rfl, ?_⟩; have n0_ := Aside0.mk (below_step (by repeat (first | (with_reducible first | exact HB.out | apply below_alloc | apply pw_below_drewN | apply below_drew1) | exact HB.out)) hb); clear HB; have HB := n0_; clear n0_; (try clear hb); (try clear hb2); (try clear hk); (try clear hi)) | ((with_reducible refine gate_callee (f := 10) rfl ?_); refine goesL_ (some 27) rfl rfl Try.func10 (by kernel_rfl) rfl #[.int .i64 a0, .string a1] rfl (by (try simp only [List.map_toArray, List.map_cons, List.map_nil]); first | done | rfl | (simp only [List.length_drop, List.length_take]; rfl)) ?_; (with_reducible refine (key_Prefix.calls a0 a1 t171 true _ A8.out).mono ?_); rintro e w34 ⟨rfl, hb⟩; refine ⟨_, rfl, ?_⟩; have n0_ := Aside0.mk (below_step (by repeat (first | (with_reducible first | exact HB.out | apply below_alloc | apply pw_below_drewN | apply below_drew1) | exact HB.out)) hb); clear HB; have HB := n0_; clear n0_; (try clear hb); (try clear hb2); (try clear hk); (try clear hi)) | (go_at_call 9; (with_reducible refine (batonlaw02_live.calls  t173 _ A32.out).mono ?_); rintro e w35 ⟨rfl, hb⟩; have n0_ := Aside0.mk (below_step (by repeat (first | (with_reducible first | exact HB.out | apply below_alloc | apply pw_below_drewN | apply below_drew1) | exact HB.out)) hb); clear HB; have HB := n0_; clear n0_; (try clear hb); (try clear hb2); (try clear hk); (try clear hi)))
            go_ret
            exact ⟨by first | rfl | (simp [errW_none, errW_some] <;> rfl) | (simp [*, errW_none, errW_some] <;> rfl), by repeat (first | (with_reducible first | exact HB.out | apply below_alloc | apply pw_below_drewN | apply below_drew1) | exact HB.out)⟩
          · rw [if_neg c31] at H
            have c31b0 : decide (a2 < 0) = false := decide_eq_false c31
            clear c31
            by_cases c36 : a2 > 1099511627775
            · rw [if_pos c36] at H
              have c36b0 : decide (1099511627775 < a2) = true := decide_eq_true c36
              clear c36
              replace H := Option.bind_eq_some_iff.mp H
              obtain ⟨t174, A370, H⟩ := H
              replace H : (some t174) = some r := H
              have A37 := Aside0.mk A370
              clear A370
              obtain rfl := Option.some.inj H
              go_enter Try.func5, Try.ntmps5
              go_wp2_with (first | ((with_reducible refine gate_callee (f := 12) rfl ?_); refine goesL_ (some 21) rfl rfl Try.func12 (by kernel_rfl) rfl #[.int .i64 a0, .string a1, .int .i64 a2] rfl (by (try simp only [List.map_toArray, List.map_cons, List.map_nil]); first | done | rfl | (simp only [List.length_drop, List.length_take]; rfl)) ?_; (with_reducible refine (key_Ticket.calls a0 a1 a2 t169 false _ A7.out).mono ?_); rintro e w38 ⟨rfl, hb⟩; refine ⟨_, rfl, ?_⟩; have n0_ := Aside0.mk (below_step (by repeat (first | (with_reducible first | exact HB.out | apply below_alloc | apply pw_below_drewN | apply below_drew1) | exact HB.out)) hb); clear HB; have HB := n0_; clear n0_; (try clear hb); (try clear hb2); (try clear hk); (try clear hi)) | ((with_reducible refine gate_callee (f := 10) rfl ?_); refine goesL_ (some 27) rfl rfl Try.func10 (by kernel_rfl) rfl #[.int .i64 a0, .string a1] rfl (by (try simp only [List.map_toArray, List.map_cons, List.map_nil]); first | done | rfl | (simp only [List.length_drop, List.length_take]; rfl)) ?_; (with_reducible refine (key_Prefix.calls a0 a1 t171 true _ A8.out).mono ?_); rintro e w39 ⟨rfl, hb⟩; refine ⟨_, rfl, ?_⟩; have n0_ := Aside0.mk (below_step (by repeat (first | (with_reducible first | exact HB.out | apply below_alloc | apply pw_below_drewN | apply below_drew1) | exact HB.out)) hb); clear HB; have HB := n0_; clear n0_; (try clear hb); (try clear hb2); (try clear hk); (try clear hi)) | (go_at_call 9; (with_reducible refine (batonlaw02_live.calls  t174 _ A37.out).mono ?_); rintro e w40 ⟨rfl, hb⟩; have n0_ := Aside0.mk (below_step (by repeat (first | (with_reducible first | exact HB.out | apply below_alloc | apply pw_below_drewN | apply below_drew1) | exact HB.out)) hb); clear HB; have HB := n0_; clear n0_; (try clear hb); (try clear hb2); (try clear hk); (try clear hi)))
              go_ret
              exact ⟨by first | rfl | (simp [errW_none, errW_some] <;> rfl) | (simp [*, errW_none, errW_some] <;> rfl), by repeat (first | (with_reducible first | exact HB.out | apply below_alloc | apply pw_below_drewN | apply below_drew1) | exact HB.out)⟩
            · rw [if_neg c36] at H
              exact absurd H (by simp)
        · replace c30 := Bool.eq_false_iff.mpr c30
          subst c30
          have H1 : ((batonlaw02_live.f).bind fun t175 => (some t175)) = some r := by rw [if_neg (show ¬ (false = true) by decide)] at H; exact H
          clear H
          have H := H1
          clear H1
          replace H := Option.bind_eq_some_iff.mp H
          obtain ⟨t175, A410, H⟩ := H
          replace H : (some t175) = some r := H
          have A41 := Aside0.mk A410
          clear A410
          obtain rfl := Option.some.inj H
          go_enter Try.func5, Try.ntmps5
          go_wp2_with (first | ((with_reducible refine gate_callee (f := 12) rfl ?_); refine goesL_ (some 21) rfl rfl Try.func12 (by kernel_rfl) rfl #[.int .i64 a0, .string a1, .int .i64 a2] rfl (by (try simp only [List.map_toArray, List.map_cons, List.map_nil]); first | done | rfl | (simp only [List.length_drop, List.length_take]; rfl)) ?_; (with_reducible refine (key_Ticket.calls a0 a1 a2 t169 false _ A7.out).mono ?_); rintro e w42 ⟨rfl, hb⟩; refine ⟨_, rfl, ?_⟩; have n0_ := Aside0.mk (below_step (by repeat (first | (with_reducible first | exact HB.out | apply below_alloc | apply pw_below_drewN | apply below_drew1) | exact HB.out)) hb); clear HB; have HB := n0_; clear n0_; (try clear hb); (try clear hb2); (try clear hk); (try clear hi)) | ((with_reducible refine gate_callee (f := 10) rfl ?_); refine goesL_ (some 27) rfl rfl Try.func10 (by kernel_rfl) rfl #[.int .i64 a0, .string a1] rfl (by (try simp only [List.map_toArray, List.map_cons, List.map_nil]); first | done | rfl | (simp only [List.length_drop, List.length_take]; rfl)) ?_; (with_reducible refine (key_Prefix.calls a0 a1 t171 false _ A8.out).mono ?_); rintro e w43 ⟨rfl, hb⟩; refine ⟨_, rfl, ?_⟩; have n0_ := Aside0.mk (below_step (by repeat (first | (with_reducible first | exact HB.out | apply below_alloc | apply pw_below_drewN | apply below_drew1) | exact HB.out)) hb); clear HB; have HB := n0_; clear n0_; (try clear hb); (try clear hb2); (try clear hk); (try clear hi)) | (go_at_call 9; (with_reducible refine (batonlaw02_live.calls  t175 _ A41.out).mono ?_); rintro e w44 ⟨rfl, hb⟩; have n0_ := Aside0.mk (below_step (by repeat (first | (with_reducible first | exact HB.out | apply below_alloc | apply pw_below_drewN | apply below_drew1) | exact HB.out)) hb); clear HB; have HB := n0_; clear n0_; (try clear hb); (try clear hb2); (try clear hk); (try clear hi)))
          go_ret
          exact ⟨by first | rfl | (simp [errW_none, errW_some] <;> rfl) | (simp [*, errW_none, errW_some] <;> rfl), by repeat (first | (with_reducible first | exact HB.out | apply below_alloc | apply pw_below_drewN | apply below_drew1) | exact HB.out)⟩
      · rw [if_neg c29] at H
        exact absurd H (by simp)

-- NOT PRINTED: function 6 (batonlaw02_KeyApart)

/-! ### batonlaw02_KeyOrder: function 7 -/
def batonlaw02_KeyOrder.j0 : Nat → Int → Int → ByteArray → ByteArray → Bool → Option (Bool)
  | 0, _, _, _, _, _ => none
  | k + 1, x7, x8, x9, x11, x40 => if x40 = true then ((batonlaw02_live.f).bind fun t329 => (some t329)) else (if ((Op.bytesLess x9.toList x11.toList) == (decide (x7 < x8))) = true then (if ((x9.toList == x11.toList) == (x7 == x8)) = true then (if (x9.size : Int) = (x11.size : Int) then ((batonlaw02_live.f).bind fun t330 => (some t330)) else (none)) else (none)) else (none))
def batonlaw02_KeyOrder.f (k : Nat) (a0 : Int) (a1 : ByteArray) (a2_0 : Int) (a2_1 : Int) : Option (Bool) := if (a1.size : Int) > 100 then ((batonlaw02_live.f).bind fun t324 => (some t324)) else ((key_Ticket.f a0 a1 a2_0).bind fun bt325 => ((key_Ticket.f a0 a1 a2_1).bind fun bt327 => (if bt325.2 = true then (batonlaw02_KeyOrder.j0 k a2_0 a2_1 bt325.1 bt327.1 (!bt327.2)) else (batonlaw02_KeyOrder.j0 k a2_0 a2_1 bt325.1 bt327.1 true))))
theorem batonlaw02_KeyOrder.mono_l : ∀ k, (∀ y0 y1 y2 y3 y4, LeO (batonlaw02_KeyOrder.j0 k y0 y1 y2 y3 y4) (batonlaw02_KeyOrder.j0 (k + 1) y0 y1 y2 y3 y4))
  | 0 => fun _ _ _ _ _ r h => by simp [batonlaw02_KeyOrder.j0] at h
  | k + 1 => by
    have ih0 := batonlaw02_KeyOrder.mono_l k
    · intro y0 y1 y2 y3 y4
      unfold batonlaw02_KeyOrder.j0
      repeat' first
      | (with_reducible exact ih0 _ _ _ _ _)
      | (with_reducible exact LeO.refl _)
      | (with_reducible exact LeO.none _)
      | (with_reducible refine LeO.ite ?_ ?_)
      | (with_reducible refine LeO.bind ?_ (fun _ => ?_))
      | exact ih0 _ _ _ _ _
      | exact LeO.none _
      | refine LeO.ite ?_ ?_
      | refine LeO.bind ?_ (fun _ => ?_)
theorem batonlaw02_KeyOrder.mono : ∀ a0 a1 a2 a3 k, LeO (batonlaw02_KeyOrder.f k a0 a1 a2 a3) (batonlaw02_KeyOrder.f (k + 1) a0 a1 a2 a3) := by
  intro a0 a1 a2 a3 k
  have ih0 := batonlaw02_KeyOrder.mono_l k
  unfold batonlaw02_KeyOrder.f
  repeat' first
      | (with_reducible exact ih0 _ _ _ _ _)
      | (with_reducible exact LeO.refl _)
      | (with_reducible exact LeO.none _)
      | (with_reducible refine LeO.ite ?_ ?_)
      | (with_reducible refine LeO.bind ?_ (fun _ => ?_))
      | exact ih0 _ _ _ _ _
      | exact LeO.none _
      | refine LeO.ite ?_ ?_
      | refine LeO.bind ?_ (fun _ => ?_)
set_option maxHeartbeats 8000000 in
set_option maxRecDepth 100000 in
theorem batonlaw02_KeyOrder.calls (k : Nat) (a0 : Int) (a1 : ByteArray) (a2_0 : Int) (a2_1 : Int) (r : Bool) (w : World) (h : batonlaw02_KeyOrder.f k a0 a1 a2_0 a2_1 = some r) :
    Calls Try.prog 7 #[.int .i64 a0, .string a1, .agg #[.int .i64 a2_0, .int .i64 a2_1]] w fun e w' => e = .returned (.bool r) ∧ Below w.heap.size w w' := by
  have hu33 := Try.underlying33
  have HB := Aside0.mk (Below.refl w.heap.size w)
  have H : (if (a1.size : Int) > 100 then ((batonlaw02_live.f).bind fun t324 => (some t324)) else ((key_Ticket.f a0 a1 a2_0).bind fun bt325 => ((key_Ticket.f a0 a1 a2_1).bind fun bt327 => (if bt325.2 = true then (batonlaw02_KeyOrder.j0 k a2_0 a2_1 bt325.1 bt327.1 (!bt327.2)) else (batonlaw02_KeyOrder.j0 k a2_0 a2_1 bt325.1 bt327.1 true))))) = some r := h
  clear h
  by_cases c4 : (a1.size : Int) > 100
  · rw [if_pos c4] at H
    have c4b0 : decide (100 < (a1.size : Int)) = true := decide_eq_true c4
    have c4b1 : decide (100 < a1.size) = true := decide_eq_true (by omega)
    clear c4
    replace H := Option.bind_eq_some_iff.mp H
    obtain ⟨t324, A50, H⟩ := H
    replace H : (some t324) = some r := H
    have A5 := Aside0.mk A50
    clear A50
    obtain rfl := Option.some.inj H
    go_enter Try.func7, Try.ntmps7
    go_wp2_with (first | ((with_reducible refine gate_dst (N := 5) rfl ?_); (try (refine gate_guard (by rfl) ?_; dsimp only)); refine box_event ?hg (N := 5) ?hd (cs := #[.int .i64 a2_0, .int .i64 a2_1]) (t := 33) ?hr ?_; (case hd => rfl); (case hg => rfl); (case hr => first | (go_simp; done) | (go_simp; rfl)); intro gb323 hg w6 hbox hb; have n0_ := Aside0.mk (below_step (by repeat (first | (with_reducible first | exact HB.out | apply below_alloc | apply pw_below_drewN | apply below_drew1) | exact HB.out)) hb); have n1_ := Aside0.mk (hbox); have n2_ := Aside0.mk ((by rw [hg]; exact (below_size (by repeat (first | (with_reducible first | exact HB.out | apply below_alloc | apply pw_below_drewN | apply below_drew1) | exact HB.out))) : w.heap.size ≤ gb323)); have n3_ := Aside0.mk ((by rw [hg]; exact (below_size (by repeat (first | (with_reducible first | exact HB.out | apply below_alloc | apply pw_below_drewN | apply below_drew1) | exact HB.out))) : w.heap.size ≤ gb323)); clear HB; have HB := n0_; have BK323 := n1_; have GW323 := n2_; have GE323 := n3_; clear n0_ n1_ n2_ n3_; clear hb hbox hg; have hcz7_0 : w6.cell? ⟨gb323, 0, none⟩ = some (.int .i64 a2_0) := (blk_cell BK323.out 0).trans rfl; have hcz7_1 : w6.cell? ⟨gb323, 1, none⟩ = some (.int .i64 a2_1) := (blk_cell BK323.out 1).trans rfl; have hfz7_0 := blk_frozen BK323.out 0; have hfz7_1 := blk_frozen BK323.out 1) | (go_at_call 9; (with_reducible refine (batonlaw02_live.calls  t324 _ A5.out).mono ?_); rintro e w8 ⟨rfl, hb⟩; have n0_ := Aside0.mk (blk_below (g := gb323) (o := .cells #[.int .i64 a2_0, .int .i64 a2_1] 33 (0, 0)) (by (with_reducible repeat (first | refine blk_drewN ?_ _ | refine blk_drew ?_ | refine blk_alloc ?_ _)); exact BK323.out) hb); have n1_ := Aside0.mk (below_step (by repeat (first | (with_reducible first | exact HB.out | apply below_alloc | apply pw_below_drewN | apply below_drew1 | refine below_set ?_ GE323.out) | exact HB.out)) hb); clear BK323; clear HB; have BK323 := n0_; have HB := n1_; clear n0_ n1_; (try clear hb); (try clear hb2); (try clear hk); (try clear hi)))
    repeat (go_quiet (first | ((with_reducible refine gate_dst (N := 5) rfl ?_); (try (refine gate_guard (by rfl) ?_; dsimp only)); refine box_event ?hg (N := 5) ?hd (cs := #[.int .i64 a2_0, .int .i64 a2_1]) (t := 33) ?hr ?_; (case hd => rfl); (case hg => rfl); (case hr => first | (go_simp; done) | (go_simp; rfl)); intro gb323 hg w6 hbox hb; have n0_ := Aside0.mk (below_step (by repeat (first | (with_reducible first | exact HB.out | apply below_alloc | apply pw_below_drewN | apply below_drew1) | exact HB.out)) hb); have n1_ := Aside0.mk (hbox); have n2_ := Aside0.mk ((by rw [hg]; exact (below_size (by repeat (first | (with_reducible first | exact HB.out | apply below_alloc | apply pw_below_drewN | apply below_drew1) | exact HB.out))) : w.heap.size ≤ gb323)); have n3_ := Aside0.mk ((by rw [hg]; exact (below_size (by repeat (first | (with_reducible first | exact HB.out | apply below_alloc | apply pw_below_drewN | apply below_drew1) | exact HB.out))) : w.heap.size ≤ gb323)); clear HB; have HB := n0_; have BK323 := n1_; have GW323 := n2_; have GE323 := n3_; clear n0_ n1_ n2_ n3_; clear hb hbox hg; have hcz7_0 : w6.cell? ⟨gb323, 0, none⟩ = some (.int .i64 a2_0) := (blk_cell BK323.out 0).trans rfl; have hcz7_1 : w6.cell? ⟨gb323, 1, none⟩ = some (.int .i64 a2_1) := (blk_cell BK323.out 1).trans rfl; have hfz7_0 := blk_frozen BK323.out 0; have hfz7_1 := blk_frozen BK323.out 1) | (go_at_call 9; (with_reducible refine (batonlaw02_live.calls  t324 _ A5.out).mono ?_); rintro e w8 ⟨rfl, hb⟩; have n0_ := Aside0.mk (blk_below (g := gb323) (o := .cells #[.int .i64 a2_0, .int .i64 a2_1] 33 (0, 0)) (by (with_reducible repeat (first | refine blk_drewN ?_ _ | refine blk_drew ?_ | refine blk_alloc ?_ _)); exact BK323.out) hb); have n1_ := Aside0.mk (below_step (by repeat (first | (with_reducible first | exact HB.out | apply below_alloc | apply pw_below_drewN | apply below_drew1 | refine below_set ?_ GE323.out) | exact HB.out)) hb); clear BK323; clear HB; have BK323 := n0_; have HB := n1_; clear n0_ n1_; (try clear hb); (try clear hb2); (try clear hk); (try clear hi))); try go_wp2_with (first | ((with_reducible refine gate_dst (N := 5) rfl ?_); (try (refine gate_guard (by rfl) ?_; dsimp only)); refine box_event ?hg (N := 5) ?hd (cs := #[.int .i64 a2_0, .int .i64 a2_1]) (t := 33) ?hr ?_; (case hd => rfl); (case hg => rfl); (case hr => first | (go_simp; done) | (go_simp; rfl)); intro gb323 hg w6 hbox hb; have n0_ := Aside0.mk (below_step (by repeat (first | (with_reducible first | exact HB.out | apply below_alloc | apply pw_below_drewN | apply below_drew1) | exact HB.out)) hb); have n1_ := Aside0.mk (hbox); have n2_ := Aside0.mk ((by rw [hg]; exact (below_size (by repeat (first | (with_reducible first | exact HB.out | apply below_alloc | apply pw_below_drewN | apply below_drew1) | exact HB.out))) : w.heap.size ≤ gb323)); have n3_ := Aside0.mk ((by rw [hg]; exact (below_size (by repeat (first | (with_reducible first | exact HB.out | apply below_alloc | apply pw_below_drewN | apply below_drew1) | exact HB.out))) : w.heap.size ≤ gb323)); clear HB; have HB := n0_; have BK323 := n1_; have GW323 := n2_; have GE323 := n3_; clear n0_ n1_ n2_ n3_; clear hb hbox hg; have hcz7_0 : w6.cell? ⟨gb323, 0, none⟩ = some (.int .i64 a2_0) := (blk_cell BK323.out 0).trans rfl; have hcz7_1 : w6.cell? ⟨gb323, 1, none⟩ = some (.int .i64 a2_1) := (blk_cell BK323.out 1).trans rfl; have hfz7_0 := blk_frozen BK323.out 0; have hfz7_1 := blk_frozen BK323.out 1) | (go_at_call 9; (with_reducible refine (batonlaw02_live.calls  t324 _ A5.out).mono ?_); rintro e w8 ⟨rfl, hb⟩; have n0_ := Aside0.mk (blk_below (g := gb323) (o := .cells #[.int .i64 a2_0, .int .i64 a2_1] 33 (0, 0)) (by (with_reducible repeat (first | refine blk_drewN ?_ _ | refine blk_drew ?_ | refine blk_alloc ?_ _)); exact BK323.out) hb); have n1_ := Aside0.mk (below_step (by repeat (first | (with_reducible first | exact HB.out | apply below_alloc | apply pw_below_drewN | apply below_drew1 | refine below_set ?_ GE323.out) | exact HB.out)) hb); clear BK323; clear HB; have BK323 := n0_; have HB := n1_; clear n0_ n1_; (try clear hb); (try clear hb2); (try clear hk); (try clear hi))))
    all_goals (go_ret; exact ⟨by first | rfl | (simp [errW_none, errW_some] <;> rfl) | (simp [*, errW_none, errW_some] <;> rfl) | (exfalso; simp_all <;> omega), by repeat (first | (with_reducible first | exact HB.out | apply below_alloc | apply pw_below_drewN | apply below_drew1 | refine below_set ?_ GE323.out) | exact HB.out)⟩)
  · rw [if_neg c4] at H
    have c4b0 : decide (100 < (a1.size : Int)) = false := decide_eq_false c4
    have c4b1 : decide (100 < a1.size) = false := decide_eq_false (by omega)
    clear c4
    replace H := Option.bind_eq_some_iff.mp H
    obtain ⟨⟨t325, t326⟩, A90, H⟩ := H
    replace H : ((key_Ticket.f a0 a1 a2_1).bind fun bt327 => (if t326 = true then (batonlaw02_KeyOrder.j0 k a2_0 a2_1 t325 bt327.1 (!bt327.2)) else (batonlaw02_KeyOrder.j0 k a2_0 a2_1 t325 bt327.1 true))) = some r := H
    have A9 := Aside0.mk A90
    clear A90
    replace H := Option.bind_eq_some_iff.mp H
    obtain ⟨⟨t327, t328⟩, A100, H⟩ := H
    replace H : (if t326 = true then (batonlaw02_KeyOrder.j0 k a2_0 a2_1 t325 t327 (!t328)) else (batonlaw02_KeyOrder.j0 k a2_0 a2_1 t325 t327 true)) = some r := H
    have A10 := Aside0.mk A100
    clear A100
    have HC11 := Aside0.mk H
    clear H
    go_enter Try.func7, Try.ntmps7
    go_upto_region 6 with (first | ((with_reducible refine gate_dst (N := 5) rfl ?_); (try (refine gate_guard (by rfl) ?_; dsimp only)); refine box_event ?hg (N := 5) ?hd (cs := #[.int .i64 a2_0, .int .i64 a2_1]) (t := 33) ?hr ?_; (case hd => rfl); (case hg => rfl); (case hr => first | (go_simp; done) | (go_simp; rfl)); intro gb323 hg w12 hbox hb; have n0_ := Aside0.mk (below_step (by repeat (first | (with_reducible first | exact HB.out | apply below_alloc | apply pw_below_drewN | apply below_drew1) | exact HB.out)) hb); have n1_ := Aside0.mk (hbox); have n2_ := Aside0.mk ((by rw [hg]; exact (below_size (by repeat (first | (with_reducible first | exact HB.out | apply below_alloc | apply pw_below_drewN | apply below_drew1) | exact HB.out))) : w.heap.size ≤ gb323)); have n3_ := Aside0.mk ((by rw [hg]; exact (below_size (by repeat (first | (with_reducible first | exact HB.out | apply below_alloc | apply pw_below_drewN | apply below_drew1) | exact HB.out))) : w.heap.size ≤ gb323)); clear HB; have HB := n0_; have BK323 := n1_; have GW323 := n2_; have GE323 := n3_; clear n0_ n1_ n2_ n3_; clear hb hbox hg; have hcz13_0 : w12.cell? ⟨gb323, 0, none⟩ = some (.int .i64 a2_0) := (blk_cell BK323.out 0).trans rfl; have hcz13_1 : w12.cell? ⟨gb323, 1, none⟩ = some (.int .i64 a2_1) := (blk_cell BK323.out 1).trans rfl; have hfz13_0 := blk_frozen BK323.out 0; have hfz13_1 := blk_frozen BK323.out 1) | (go_at_call 12; (with_reducible refine (key_Ticket.calls a0 a1 a2_0 t325 t326 _ A9.out).mono ?_); rintro e w14 ⟨rfl, hb⟩; have n0_ := Aside0.mk (blk_below (g := gb323) (o := .cells #[.int .i64 a2_0, .int .i64 a2_1] 33 (0, 0)) (by (with_reducible repeat (first | refine blk_drewN ?_ _ | refine blk_drew ?_ | refine blk_alloc ?_ _)); exact BK323.out) hb); have n1_ := Aside0.mk (below_step (by repeat (first | (with_reducible first | exact HB.out | apply below_alloc | apply pw_below_drewN | apply below_drew1 | refine below_set ?_ GE323.out) | exact HB.out)) hb); clear BK323; clear HB; have BK323 := n0_; have HB := n1_; clear n0_ n1_; (try clear hb); (try clear hb2); (try clear hk); (try clear hi)) | (go_at_call 12; (with_reducible refine (key_Ticket.calls a0 a1 a2_1 t327 t328 _ A10.out).mono ?_); rintro e w15 ⟨rfl, hb⟩; have n0_ := Aside0.mk (blk_below (g := gb323) (o := .cells #[.int .i64 a2_0, .int .i64 a2_1] 33 (0, 0)) (by (with_reducible repeat (first | refine blk_drewN ?_ _ | refine blk_drew ?_ | refine blk_alloc ?_ _)); exact BK323.out) hb); have n1_ := Aside0.mk (below_step (by repeat (first | (with_reducible first | exact HB.out | apply below_alloc | apply pw_below_drewN | apply below_drew1 | refine below_set ?_ GE323.out) | exact HB.out)) hb); clear BK323; clear HB; have BK323 := n0_; have HB := n1_; clear n0_ n1_; (try clear hb); (try clear hb2); (try clear hk); (try clear hi)))
    repeat (go_quiet (first | ((with_reducible refine gate_dst (N := 5) rfl ?_); (try (refine gate_guard (by rfl) ?_; dsimp only)); refine box_event ?hg (N := 5) ?hd (cs := #[.int .i64 a2_0, .int .i64 a2_1]) (t := 33) ?hr ?_; (case hd => rfl); (case hg => rfl); (case hr => first | (go_simp; done) | (go_simp; rfl)); intro gb323 hg w12 hbox hb; have n0_ := Aside0.mk (below_step (by repeat (first | (with_reducible first | exact HB.out | apply below_alloc | apply pw_below_drewN | apply below_drew1) | exact HB.out)) hb); have n1_ := Aside0.mk (hbox); have n2_ := Aside0.mk ((by rw [hg]; exact (below_size (by repeat (first | (with_reducible first | exact HB.out | apply below_alloc | apply pw_below_drewN | apply below_drew1) | exact HB.out))) : w.heap.size ≤ gb323)); have n3_ := Aside0.mk ((by rw [hg]; exact (below_size (by repeat (first | (with_reducible first | exact HB.out | apply below_alloc | apply pw_below_drewN | apply below_drew1) | exact HB.out))) : w.heap.size ≤ gb323)); clear HB; have HB := n0_; have BK323 := n1_; have GW323 := n2_; have GE323 := n3_; clear n0_ n1_ n2_ n3_; clear hb hbox hg; have hcz13_0 : w12.cell? ⟨gb323, 0, none⟩ = some (.int .i64 a2_0) := (blk_cell BK323.out 0).trans rfl; have hcz13_1 : w12.cell? ⟨gb323, 1, none⟩ = some (.int .i64 a2_1) := (blk_cell BK323.out 1).trans rfl; have hfz13_0 := blk_frozen BK323.out 0; have hfz13_1 := blk_frozen BK323.out 1) | (go_at_call 12; (with_reducible refine (key_Ticket.calls a0 a1 a2_0 t325 t326 _ A9.out).mono ?_); rintro e w14 ⟨rfl, hb⟩; have n0_ := Aside0.mk (blk_below (g := gb323) (o := .cells #[.int .i64 a2_0, .int .i64 a2_1] 33 (0, 0)) (by (with_reducible repeat (first | refine blk_drewN ?_ _ | refine blk_drew ?_ | refine blk_alloc ?_ _)); exact BK323.out) hb); have n1_ := Aside0.mk (below_step (by repeat (first | (with_reducible first | exact HB.out | apply below_alloc | apply pw_below_drewN | apply below_drew1 | refine below_set ?_ GE323.out) | exact HB.out)) hb); clear BK323; clear HB; have BK323 := n0_; have HB := n1_; clear n0_ n1_; (try clear hb); (try clear hb2); (try clear hk); (try clear hi)) | (go_at_call 12; (with_reducible refine (key_Ticket.calls a0 a1 a2_1 t327 t328 _ A10.out).mono ?_); rintro e w15 ⟨rfl, hb⟩; have n0_ := Aside0.mk (blk_below (g := gb323) (o := .cells #[.int .i64 a2_0, .int .i64 a2_1] 33 (0, 0)) (by (with_reducible repeat (first | refine blk_drewN ?_ _ | refine blk_drew ?_ | refine blk_alloc ?_ _)); exact BK323.out) hb); have n1_ := Aside0.mk (below_step (by repeat (first | (with_reducible first | exact HB.out | apply below_alloc | apply pw_below_drewN | apply below_drew1 | refine below_set ?_ GE323.out) | exact HB.out)) hb); clear BK323; clear HB; have BK323 := n0_; have HB := n1_; clear n0_ n1_; (try clear hb); (try clear hb2); (try clear hk); (try clear hi))); go_upto_region 6 with (first | ((with_reducible refine gate_dst (N := 5) rfl ?_); (try (refine gate_guard (by rfl) ?_; dsimp only)); refine box_event ?hg (N := 5) ?hd (cs := #[.int .i64 a2_0, .int .i64 a2_1]) (t := 33) ?hr ?_; (case hd => rfl); (case hg => rfl); (case hr => first | (go_simp; done) | (go_simp; rfl)); intro gb323 hg w12 hbox hb; have n0_ := Aside0.mk (below_step (by repeat (first | (with_reducible first | exact HB.out | apply below_alloc | apply pw_below_drewN | apply below_drew1) | exact HB.out)) hb); have n1_ := Aside0.mk (hbox); have n2_ := Aside0.mk ((by rw [hg]; exact (below_size (by repeat (first | (with_reducible first | exact HB.out | apply below_alloc | apply pw_below_drewN | apply below_drew1) | exact HB.out))) : w.heap.size ≤ gb323)); have n3_ := Aside0.mk ((by rw [hg]; exact (below_size (by repeat (first | (with_reducible first | exact HB.out | apply below_alloc | apply pw_below_drewN | apply below_drew1) | exact HB.out))) : w.heap.size ≤ gb323)); clear HB; have HB := n0_; have BK323 := n1_; have GW323 := n2_; have GE323 := n3_; clear n0_ n1_ n2_ n3_; clear hb hbox hg; have hcz13_0 : w12.cell? ⟨gb323, 0, none⟩ = some (.int .i64 a2_0) := (blk_cell BK323.out 0).trans rfl; have hcz13_1 : w12.cell? ⟨gb323, 1, none⟩ = some (.int .i64 a2_1) := (blk_cell BK323.out 1).trans rfl; have hfz13_0 := blk_frozen BK323.out 0; have hfz13_1 := blk_frozen BK323.out 1) | (go_at_call 12; (with_reducible refine (key_Ticket.calls a0 a1 a2_0 t325 t326 _ A9.out).mono ?_); rintro e w14 ⟨rfl, hb⟩; have n0_ := Aside0.mk (blk_below (g := gb323) (o := .cells #[.int .i64 a2_0, .int .i64 a2_1] 33 (0, 0)) (by (with_reducible repeat (first | refine blk_drewN ?_ _ | refine blk_drew ?_ | refine blk_alloc ?_ _)); exact BK323.out) hb); have n1_ := Aside0.mk (below_step (by repeat (first | (with_reducible first | exact HB.out | apply below_alloc | apply pw_below_drewN | apply below_drew1 | refine below_set ?_ GE323.out) | exact HB.out)) hb); clear BK323; clear HB; have BK323 := n0_; have HB := n1_; clear n0_ n1_; (try clear hb); (try clear hb2); (try clear hk); (try clear hi)) | (go_at_call 12; (with_reducible refine (key_Ticket.calls a0 a1 a2_1 t327 t328 _ A10.out).mono ?_); rintro e w15 ⟨rfl, hb⟩; have n0_ := Aside0.mk (blk_below (g := gb323) (o := .cells #[.int .i64 a2_0, .int .i64 a2_1] 33 (0, 0)) (by (with_reducible repeat (first | refine blk_drewN ?_ _ | refine blk_drew ?_ | refine blk_alloc ?_ _)); exact BK323.out) hb); have n1_ := Aside0.mk (below_step (by repeat (first | (with_reducible first | exact HB.out | apply below_alloc | apply pw_below_drewN | apply below_drew1 | refine below_set ?_ GE323.out) | exact HB.out)) hb); clear BK323; clear HB; have BK323 := n0_; have HB := n1_; clear n0_ n1_; (try clear hb); (try clear hb2); (try clear hk); (try clear hi))))
    (try simp only [Act.put, List.setIfInBounds_toArray, List.set_cons_zero, List.set_cons_succ])
    go_cut [40] (fun v40 wc => ∃ (kq : Nat) (x40_10 : Bool), v40 = .bool x40_10 ∧ Aside0 (batonlaw02_KeyOrder.j0 kq a2_0 a2_1 t325 t327 x40_10 = some r) ∧ Aside0 (kq ≤ k) ∧ Aside0 (wc.heap[gb323]? = some (.cells #[.int .i64 a2_0, .int .i64 a2_1] 33 (0, 0))) ∧ Aside0 (Below w.heap.size w wc))
    case first =>
      have H := HC11.out
      clear HC11
      by_cases c16 : t326 = true
      · subst c16
        have H1 : (batonlaw02_KeyOrder.j0 k a2_0 a2_1 t325 t327 (!t328)) = some r := by rw [if_pos rfl] at H; exact H
        clear H
        have H := H1
        clear H1
        have H' := Aside0.mk H
        clear H
        go_wp2
        repeat (go_quiet (fail); try go_wp2)
        go_meet
        case rel => exact ⟨_, (!t328), (by first | rfl | (simp; done) | (simp [*]; done)), H', ⟨by first | omega | exact Nat.le_refl _⟩, ⟨by (with_reducible repeat (first | refine blk_drewN ?_ _ | refine blk_drew ?_ | refine blk_alloc ?_ _)); exact BK323.out⟩, ⟨by repeat (first | (with_reducible first | exact HB.out | apply below_alloc | apply pw_below_drewN | apply below_drew1 | refine below_set ?_ GE323.out) | exact HB.out)⟩⟩
      · replace c16 := Bool.eq_false_iff.mpr c16
        subst c16
        have H1 : (batonlaw02_KeyOrder.j0 k a2_0 a2_1 t325 t327 true) = some r := by rw [if_neg (show ¬ (false = true) by decide)] at H; exact H
        clear H
        have H := H1
        clear H1
        have H' := Aside0.mk H
        clear H
        go_wp2
        repeat (go_quiet (fail); try go_wp2)
        go_meet
        case rel => exact ⟨_, (true), (by first | rfl | (simp; done) | (simp [*]; done)), H', ⟨by first | omega | exact Nat.le_refl _⟩, ⟨by (with_reducible repeat (first | refine blk_drewN ?_ _ | refine blk_drew ?_ | refine blk_alloc ?_ _)); exact BK323.out⟩, ⟨by repeat (first | (with_reducible first | exact HB.out | apply below_alloc | apply pw_below_drewN | apply below_drew1 | refine below_set ?_ GE323.out) | exact HB.out)⟩⟩
    case rest =>
      clear HC11
      try clear c1
      try clear p2
      try clear c4
      try clear c4b0
      try clear c4b1
      try clear c7
      try clear c16
      try clear hcz13_0
      try clear hcz13_1
      try clear hcz7_0
      try clear hcz7_1
      try clear hfz13_0
      try clear hfz13_1
      try clear hfz7_0
      try clear hfz7_1
      obtain ⟨kq, x40_10, rfl, HA, HJ10, BK323, HB⟩ := hcut
      cases kq with
      | zero => exact absurd HA.out (by simp [batonlaw02_KeyOrder.j0])
      | succ kj10 =>
        have H := HA.out
        clear HA
        simp only [batonlaw02_KeyOrder.j0] at H
        by_cases c17 : x40_10 = true
        · subst c17
          have H1 : ((batonlaw02_live.f).bind fun t329 => (some t329)) = some r := by rw [if_pos rfl] at H; exact H
          clear H
          have H := H1
          clear H1
          replace H := Option.bind_eq_some_iff.mp H
          obtain ⟨t329, A180, H⟩ := H
          replace H : (some t329) = some r := H
          have A18 := Aside0.mk A180
          clear A180
          obtain rfl := Option.some.inj H
          go_wp2_with (first | (go_at_call 9; (with_reducible refine (batonlaw02_live.calls  t329 _ A18.out).mono ?_); rintro e w19 ⟨rfl, hb⟩; have n0_ := Aside0.mk (blk_below (g := gb323) (o := .cells #[.int .i64 a2_0, .int .i64 a2_1] 33 (0, 0)) (by (with_reducible repeat (first | refine blk_drewN ?_ _ | refine blk_drew ?_ | refine blk_alloc ?_ _)); exact BK323.out) hb); have n1_ := Aside0.mk (below_step (by repeat (first | (with_reducible first | exact HB.out | apply below_alloc | apply pw_below_drewN | apply below_drew1 | refine below_set ?_ GE323.out) | exact HB.out)) hb); clear BK323; clear HB; have BK323 := n0_; have HB := n1_; clear n0_ n1_; (try clear hb); (try clear hb2); (try clear hk); (try clear hi)))
          repeat (go_quiet (first | (go_at_call 9; (with_reducible refine (batonlaw02_live.calls  t329 _ A18.out).mono ?_); rintro e w19 ⟨rfl, hb⟩; have n0_ := Aside0.mk (blk_below (g := gb323) (o := .cells #[.int .i64 a2_0, .int .i64 a2_1] 33 (0, 0)) (by (with_reducible repeat (first | refine blk_drewN ?_ _ | refine blk_drew ?_ | refine blk_alloc ?_ _)); exact BK323.out) hb); have n1_ := Aside0.mk (below_step (by repeat (first | (with_reducible first | exact HB.out | apply below_alloc | apply pw_below_drewN | apply below_drew1 | refine below_set ?_ GE323.out) | exact HB.out)) hb); clear BK323; clear HB; have BK323 := n0_; have HB := n1_; clear n0_ n1_; (try clear hb); (try clear hb2); (try clear hk); (try clear hi))); try go_wp2_with (first | (go_at_call 9; (with_reducible refine (batonlaw02_live.calls  t329 _ A18.out).mono ?_); rintro e w19 ⟨rfl, hb⟩; have n0_ := Aside0.mk (blk_below (g := gb323) (o := .cells #[.int .i64 a2_0, .int .i64 a2_1] 33 (0, 0)) (by (with_reducible repeat (first | refine blk_drewN ?_ _ | refine blk_drew ?_ | refine blk_alloc ?_ _)); exact BK323.out) hb); have n1_ := Aside0.mk (below_step (by repeat (first | (with_reducible first | exact HB.out | apply below_alloc | apply pw_below_drewN | apply below_drew1 | refine below_set ?_ GE323.out) | exact HB.out)) hb); clear BK323; clear HB; have BK323 := n0_; have HB := n1_; clear n0_ n1_; (try clear hb); (try clear hb2); (try clear hk); (try clear hi))))
          all_goals (go_ret; exact ⟨by first | rfl | (simp [errW_none, errW_some] <;> rfl) | (simp [*, errW_none, errW_some] <;> rfl) | (exfalso; simp_all <;> omega), by repeat (first | (with_reducible first | exact HB.out | apply below_alloc | apply pw_below_drewN | apply below_drew1 | refine below_set ?_ GE323.out) | exact HB.out)⟩)
        · replace c17 := Bool.eq_false_iff.mpr c17
          subst c17
          have H1 : (if ((Op.bytesLess t325.toList t327.toList) == (decide (a2_0 < a2_1))) = true then (if ((t325.toList == t327.toList) == (a2_0 == a2_1)) = true then (if (t325.size : Int) = (t327.size : Int) then ((batonlaw02_live.f).bind fun t330 => (some t330)) else (none)) else (none)) else (none)) = some r := by rw [if_neg (show ¬ (false = true) by decide)] at H; exact H
          clear H
          have H := H1
          clear H1
          by_cases c20 : ((Op.bytesLess t325.toList t327.toList) == (decide (a2_0 < a2_1))) = true
          · rw [if_pos c20] at H
            have c20b0 : ((Op.bytesLess t325.toList t327.toList) == (decide (a2_0 < a2_1))) = true := c20
            (try (have c20b1 : decide ((Op.bytesLess t325.toList t327.toList) = (decide (a2_0 < a2_1))) = true := by simpa using c20))
            (try (have c20b2 : ((Op.bytesLess t325.toList t327.toList) == (decide (a2_0 < a2_1))) = true := by simpa using c20))
            clear c20
            by_cases c21 : ((t325.toList == t327.toList) == (a2_0 == a2_1)) = true
            · rw [if_pos c21] at H
              have c21b0 : ((t325.toList == t327.toList) == (a2_0 == a2_1)) = true := c21
              (try (have c21b1 : decide ((t325.toList == t327.toList) = (a2_0 == a2_1)) = true := by simpa using c21))
              (try (have c21b2 : ((t325.toList == t327.toList) == (a2_0 == a2_1)) = true := by simpa using c21))
              clear c21
              by_cases c22 : (t325.size : Int) = (t327.size : Int)
              · rw [if_pos c22] at H
                have c22b0 : ((t325.size : Int) == (t327.size : Int)) = true := beq_iff_eq.mpr c22
                have c22b1 : ((t325.size : Int) != (t327.size : Int)) = false := bne_eq_false_iff_eq.mpr c22
                have c22b2 : (t325.size == t327.size) = true := by first | simpa using c22 | (simp at c22 ⊢; omega)
                clear c22
                replace H := Option.bind_eq_some_iff.mp H
                obtain ⟨t330, A230, H⟩ := H
                replace H : (some t330) = some r := H
                have A23 := Aside0.mk A230
                clear A230
                obtain rfl := Option.some.inj H
                go_wp2_with (first | (go_at_call 9; (with_reducible refine (batonlaw02_live.calls  t330 _ A23.out).mono ?_); rintro e w24 ⟨rfl, hb⟩; have n0_ := Aside0.mk (blk_below (g := gb323) (o := .cells #[.int .i64 a2_0, .int .i64 a2_1] 33 (0, 0)) (by (with_reducible repeat (first | refine blk_drewN ?_ _ | refine blk_drew ?_ | refine blk_alloc ?_ _)); exact BK323.out) hb); have n1_ := Aside0.mk (below_step (by repeat (first | (with_reducible first | exact HB.out | apply below_alloc | apply pw_below_drewN | apply below_drew1 | refine below_set ?_ GE323.out) | exact HB.out)) hb); clear BK323; clear HB; have BK323 := n0_; have HB := n1_; clear n0_ n1_; (try clear hb); (try clear hb2); (try clear hk); (try clear hi)))
                repeat (go_quiet (first | (go_at_call 9; (with_reducible refine (batonlaw02_live.calls  t330 _ A23.out).mono ?_); rintro e w24 ⟨rfl, hb⟩; have n0_ := Aside0.mk (blk_below (g := gb323) (o := .cells #[.int .i64 a2_0, .int .i64 a2_1] 33 (0, 0)) (by (with_reducible repeat (first | refine blk_drewN ?_ _ | refine blk_drew ?_ | refine blk_alloc ?_ _)); exact BK323.out) hb); have n1_ := Aside0.mk (below_step (by repeat (first | (with_reducible first | exact HB.out | apply below_alloc | apply pw_below_drewN | apply below_drew1 | refine below_set ?_ GE323.out) | exact HB.out)) hb); clear BK323; clear HB; have BK323 := n0_; have HB := n1_; clear n0_ n1_; (try clear hb); (try clear hb2); (try clear hk); (try clear hi))); try go_wp2_with (first | (go_at_call 9; (with_reducible refine (batonlaw02_live.calls  t330 _ A23.out).mono ?_); rintro e w24 ⟨rfl, hb⟩; have n0_ := Aside0.mk (blk_below (g := gb323) (o := .cells #[.int .i64 a2_0, .int .i64 a2_1] 33 (0, 0)) (by (with_reducible repeat (first | refine blk_drewN ?_ _ | refine blk_drew ?_ | refine blk_alloc ?_ _)); exact BK323.out) hb); have n1_ := Aside0.mk (below_step (by repeat (first | (with_reducible first | exact HB.out | apply below_alloc | apply pw_below_drewN | apply below_drew1 | refine below_set ?_ GE323.out) | exact HB.out)) hb); clear BK323; clear HB; have BK323 := n0_; have HB := n1_; clear n0_ n1_; (try clear hb); (try clear hb2); (try clear hk); (try clear hi))))
                all_goals (go_ret; exact ⟨by first | rfl | (simp [errW_none, errW_some] <;> rfl) | (simp [*, errW_none, errW_some] <;> rfl) | (exfalso; simp_all <;> omega), by repeat (first | (with_reducible first | exact HB.out | apply below_alloc | apply pw_below_drewN | apply below_drew1 | refine below_set ?_ GE323.out) | exact HB.out)⟩)
              · rw [if_neg c22] at H
                exact absurd H (by simp)
            · rw [if_neg c21] at H
              exact absurd H (by simp)
          · rw [if_neg c20] at H
            exact absurd H (by simp)

/-! ### batonlaw02_KeyFlags: function 8 -/
def batonlaw02_KeyFlags.f (a0 : ByteArray) (a1 : Int) : Option (Bool) := if (a0.size : Int) > 100 then ((batonlaw02_live.f).bind fun t331 => (some t331)) else ((key_Flag.f a0).bind fun bt332 => ((key_Prefix.f 6 a0).bind fun bt334 => ((key_Ticket.f 6 a0 a1).bind fun bt336 => (if bt332.2 = true then ((key_Id.f bt334.1 bt332.1).bind fun bt340 => (if bt334.2 = true then ((key_Check.f bt332.1).bind fun t342 => (if t342 = true then ((key_Under.f bt334.1 bt332.1).bind fun t343 => (if t343 = true then (if bt340.2 = true then (none) else (if bt336.2 = true then (if bt336.1.toList = bt332.1.toList then (none) else ((batonlaw02_live.f).bind fun t344 => (some t344))) else ((batonlaw02_live.f).bind fun t345 => (some t345)))) else (none))) else (none))) else (none))) else (if bt332.1.toList = ([] : List UInt8) then (if bt334.2 = true then (none) else ((key_Name.f a0).bind fun t338 => (if t338 = true then (none) else ((batonlaw02_live.f).bind fun t339 => (some t339))))) else (none))))))
set_option maxHeartbeats 8000000 in
set_option maxRecDepth 100000 in
theorem batonlaw02_KeyFlags.calls (a0 : ByteArray) (a1 : Int) (r : Bool) (w : World) (h : batonlaw02_KeyFlags.f a0 a1 = some r) :
    Calls Try.prog 8 #[.string a0, .int .i64 a1] w fun e w' => e = .returned (.bool r) ∧ Below w.heap.size w w' := by
  have HB := Aside0.mk (Below.refl w.heap.size w)
  have H : (if (a0.size : Int) > 100 then ((batonlaw02_live.f).bind fun t331 => (some t331)) else ((key_Flag.f a0).bind fun bt332 => ((key_Prefix.f 6 a0).bind fun bt334 => ((key_Ticket.f 6 a0 a1).bind fun bt336 => (if bt332.2 = true then ((key_Id.f bt334.1 bt332.1).bind fun bt340 => (if bt334.2 = true then ((key_Check.f bt332.1).bind fun t342 => (if t342 = true then ((key_Under.f bt334.1 bt332.1).bind fun t343 => (if t343 = true then (if bt340.2 = true then (none) else (if bt336.2 = true then (if bt336.1.toList = bt332.1.toList then (none) else ((batonlaw02_live.f).bind fun t344 => (some t344))) else ((batonlaw02_live.f).bind fun t345 => (some t345)))) else (none))) else (none))) else (none))) else (if bt332.1.toList = ([] : List UInt8) then (if bt334.2 = true then (none) else ((key_Name.f a0).bind fun t338 => (if t338 = true then (none) else ((batonlaw02_live.f).bind fun t339 => (some t339))))) else (none))))))) = some r := h
  clear h
  by_cases c3 : (a0.size : Int) > 100
  · rw [if_pos c3] at H
    have c3b0 : decide (100 < (a0.size : Int)) = true := decide_eq_true c3
    have c3b1 : decide (100 < a0.size) = true := decide_eq_true (by omega)
    clear c3
    replace H := Option.bind_eq_some_iff.mp H
    obtain ⟨t331, A40, H⟩ := H
    replace H : (some t331) = some r := H
    have A4 := Aside0.mk A40
    clear A40
    obtain rfl := Option.some.inj H
    go_enter Try.func8, Try.ntmps8
    go_wp2_with (first | ((with_reducible refine gate_callee (f := 9) rfl ?_); refine goesL_ (some 16) rfl rfl Try.func9 (by kernel_rfl) rfl #[] rfl (by (try simp only [List.map_toArray, List.map_cons, List.map_nil]); first | done | rfl | (simp only [List.length_drop, List.length_take]; rfl)) ?_; (with_reducible refine (batonlaw02_live.calls  t331 _ A4.out).mono ?_); rintro e w5 ⟨rfl, hb⟩; refine ⟨_, rfl, ?_⟩; have n0_ := Aside0.mk (below_step (by repeat (first | (with_reducible first | exact HB.out | apply below_alloc | apply pw_below_drewN | apply below_drew1) | exact HB.out)) hb); clear HB; have HB := n0_; clear n0_; (try clear hb); (try clear hb2); (try clear hk); (try clear hi)))
    go_ret
    exact ⟨by first | rfl | (simp [errW_none, errW_some] <;> rfl) | (simp [*, errW_none, errW_some] <;> rfl), by repeat (first | (with_reducible first | exact HB.out | apply below_alloc | apply pw_below_drewN | apply below_drew1) | exact HB.out)⟩
  · rw [if_neg c3] at H
    have c3b0 : decide (100 < (a0.size : Int)) = false := decide_eq_false c3
    have c3b1 : decide (100 < a0.size) = false := decide_eq_false (by omega)
    clear c3
    replace H := Option.bind_eq_some_iff.mp H
    obtain ⟨⟨t332, t333⟩, A60, H⟩ := H
    replace H : ((key_Prefix.f 6 a0).bind fun bt334 => ((key_Ticket.f 6 a0 a1).bind fun bt336 => (if t333 = true then ((key_Id.f bt334.1 t332).bind fun bt340 => (if bt334.2 = true then ((key_Check.f t332).bind fun t342 => (if t342 = true then ((key_Under.f bt334.1 t332).bind fun t343 => (if t343 = true then (if bt340.2 = true then (none) else (if bt336.2 = true then (if bt336.1.toList = t332.toList then (none) else ((batonlaw02_live.f).bind fun t344 => (some t344))) else ((batonlaw02_live.f).bind fun t345 => (some t345)))) else (none))) else (none))) else (none))) else (if t332.toList = ([] : List UInt8) then (if bt334.2 = true then (none) else ((key_Name.f a0).bind fun t338 => (if t338 = true then (none) else ((batonlaw02_live.f).bind fun t339 => (some t339))))) else (none))))) = some r := H
    have A6 := Aside0.mk A60
    clear A60
    replace H := Option.bind_eq_some_iff.mp H
    obtain ⟨⟨t334, t335⟩, A70, H⟩ := H
    replace H : ((key_Ticket.f 6 a0 a1).bind fun bt336 => (if t333 = true then ((key_Id.f t334 t332).bind fun bt340 => (if t335 = true then ((key_Check.f t332).bind fun t342 => (if t342 = true then ((key_Under.f t334 t332).bind fun t343 => (if t343 = true then (if bt340.2 = true then (none) else (if bt336.2 = true then (if bt336.1.toList = t332.toList then (none) else ((batonlaw02_live.f).bind fun t344 => (some t344))) else ((batonlaw02_live.f).bind fun t345 => (some t345)))) else (none))) else (none))) else (none))) else (if t332.toList = ([] : List UInt8) then (if t335 = true then (none) else ((key_Name.f a0).bind fun t338 => (if t338 = true then (none) else ((batonlaw02_live.f).bind fun t339 => (some t339))))) else (none)))) = some r := H
    have A7 := Aside0.mk A70
    clear A70
    replace H := Option.bind_eq_some_iff.mp H
    obtain ⟨⟨t336, t337⟩, A80, H⟩ := H
    replace H : (if t333 = true then ((key_Id.f t334 t332).bind fun bt340 => (if t335 = true then ((key_Check.f t332).bind fun t342 => (if t342 = true then ((key_Under.f t334 t332).bind fun t343 => (if t343 = true then (if bt340.2 = true then (none) else (if t337 = true then (if t336.toList = t332.toList then (none) else ((batonlaw02_live.f).bind fun t344 => (some t344))) else ((batonlaw02_live.f).bind fun t345 => (some t345)))) else (none))) else (none))) else (none))) else (if t332.toList = ([] : List UInt8) then (if t335 = true then (none) else ((key_Name.f a0).bind fun t338 => (if t338 = true then (none) else ((batonlaw02_live.f).bind fun t339 => (some t339))))) else (none))) = some r := H
    have A8 := Aside0.mk A80
    clear A80
    by_cases c9 : t333 = true
    · subst c9
      have H1 : ((key_Id.f t334 t332).bind fun bt340 => (if t335 = true then ((key_Check.f t332).bind fun t342 => (if t342 = true then ((key_Under.f t334 t332).bind fun t343 => (if t343 = true then (if bt340.2 = true then (none) else (if t337 = true then (if t336.toList = t332.toList then (none) else ((batonlaw02_live.f).bind fun t344 => (some t344))) else ((batonlaw02_live.f).bind fun t345 => (some t345)))) else (none))) else (none))) else (none))) = some r := by rw [if_pos rfl] at H; exact H
      clear H
      have H := H1
      clear H1
      replace H := Option.bind_eq_some_iff.mp H
      obtain ⟨⟨t340, t341⟩, A100, H⟩ := H
      replace H : (if t335 = true then ((key_Check.f t332).bind fun t342 => (if t342 = true then ((key_Under.f t334 t332).bind fun t343 => (if t343 = true then (if t341 = true then (none) else (if t337 = true then (if t336.toList = t332.toList then (none) else ((batonlaw02_live.f).bind fun t344 => (some t344))) else ((batonlaw02_live.f).bind fun t345 => (some t345)))) else (none))) else (none))) else (none)) = some r := H
      have A10 := Aside0.mk A100
      clear A100
      by_cases c11 : t335 = true
      · subst c11
        have H1 : ((key_Check.f t332).bind fun t342 => (if t342 = true then ((key_Under.f t334 t332).bind fun t343 => (if t343 = true then (if t341 = true then (none) else (if t337 = true then (if t336.toList = t332.toList then (none) else ((batonlaw02_live.f).bind fun t344 => (some t344))) else ((batonlaw02_live.f).bind fun t345 => (some t345)))) else (none))) else (none))) = some r := by rw [if_pos rfl] at H; exact H
        clear H
        have H := H1
        clear H1
        replace H := Option.bind_eq_some_iff.mp H
        obtain ⟨t342, A120, H⟩ := H
        replace H : (if t342 = true then ((key_Under.f t334 t332).bind fun t343 => (if t343 = true then (if t341 = true then (none) else (if t337 = true then (if t336.toList = t332.toList then (none) else ((batonlaw02_live.f).bind fun t344 => (some t344))) else ((batonlaw02_live.f).bind fun t345 => (some t345)))) else (none))) else (none)) = some r := H
        have A12 := Aside0.mk A120
        clear A120
        by_cases c13 : t342 = true
        · subst c13
          have H1 : ((key_Under.f t334 t332).bind fun t343 => (if t343 = true then (if t341 = true then (none) else (if t337 = true then (if t336.toList = t332.toList then (none) else ((batonlaw02_live.f).bind fun t344 => (some t344))) else ((batonlaw02_live.f).bind fun t345 => (some t345)))) else (none))) = some r := by rw [if_pos rfl] at H; exact H
          clear H
          have H := H1
          clear H1
          replace H := Option.bind_eq_some_iff.mp H
          obtain ⟨t343, A140, H⟩ := H
          replace H : (if t343 = true then (if t341 = true then (none) else (if t337 = true then (if t336.toList = t332.toList then (none) else ((batonlaw02_live.f).bind fun t344 => (some t344))) else ((batonlaw02_live.f).bind fun t345 => (some t345)))) else (none)) = some r := H
          have A14 := Aside0.mk A140
          clear A140
          by_cases c15 : t343 = true
          · subst c15
            have H1 : (if t341 = true then (none) else (if t337 = true then (if t336.toList = t332.toList then (none) else ((batonlaw02_live.f).bind fun t344 => (some t344))) else ((batonlaw02_live.f).bind fun t345 => (some t345)))) = some r := by rw [if_pos rfl] at H; exact H
            clear H
            have H := H1
            clear H1
            by_cases c16 : t341 = true
            · subst c16
              have H1 : (none) = some r := by rw [if_pos rfl] at H; exact H
              clear H
              have H := H1
              clear H1
              exact absurd H (by simp)
            · replace c16 := Bool.eq_false_iff.mpr c16
              subst c16
              have H1 : (if t337 = true then (if t336.toList = t332.toList then (none) else ((batonlaw02_live.f).bind fun t344 => (some t344))) else ((batonlaw02_live.f).bind fun t345 => (some t345))) = some r := by rw [if_neg (show ¬ (false = true) by decide)] at H; exact H
              clear H
              have H := H1
              clear H1
              by_cases c17 : t337 = true
              · subst c17
                have H1 : (if t336.toList = t332.toList then (none) else ((batonlaw02_live.f).bind fun t344 => (some t344))) = some r := by rw [if_pos rfl] at H; exact H
                clear H
                have H := H1
                clear H1
                by_cases c18 : t336.toList = t332.toList
                · rw [if_pos c18] at H
                  exact absurd H (by simp)
                · rw [if_neg c18] at H
                  have c18b0 : (t336.toList == t332.toList) = false := beq_eq_false_iff_ne.mpr c18
                  have c18b1 : (t336.toList != t332.toList) = true := bne_iff_ne.mpr c18
                  replace H := Option.bind_eq_some_iff.mp H
                  obtain ⟨t344, A190, H⟩ := H
                  replace H : (some t344) = some r := H
                  have A19 := Aside0.mk A190
                  clear A190
                  obtain rfl := Option.some.inj H
                  go_enter Try.func8, Try.ntmps8
                  go_wp2_with (first | ((with_reducible refine gate_callee (f := 14) rfl ?_); refine goesL_ (some 19) rfl rfl Try.func14 (by kernel_rfl) rfl #[.string a0] rfl (by (try simp only [List.map_toArray, List.map_cons, List.map_nil]); first | done | rfl | (simp only [List.length_drop, List.length_take]; rfl)) ?_; (with_reducible refine (key_Flag.calls a0 t332 true _ A6.out).mono ?_); rintro e w20 ⟨rfl, hb⟩; refine ⟨_, rfl, ?_⟩; have n0_ := Aside0.mk (below_step (by repeat (first | (with_reducible first | exact HB.out | apply below_alloc | apply pw_below_drewN | apply below_drew1) | exact HB.out)) hb); clear HB; have HB := n0_; clear n0_; (try clear hb); (try clear hb2); (try clear hk); (try clear hi)) | ((with_reducible refine gate_callee (f := 10) rfl ?_); refine goesL_ (some 24) rfl rfl Try.func10 (by kernel_rfl) rfl #[.int .i64 6, .string a0] rfl (by (try simp only [List.map_toArray, List.map_cons, List.map_nil]); first | done | rfl | (simp only [List.length_drop, List.length_take]; rfl)) ?_; (with_reducible refine (key_Prefix.calls 6 a0 t334 true _ A7.out).mono ?_); rintro e w21 ⟨rfl, hb⟩; refine ⟨_, rfl, ?_⟩; have n0_ := Aside0.mk (below_step (by repeat (first | (with_reducible first | exact HB.out | apply below_alloc | apply pw_below_drewN | apply below_drew1) | exact HB.out)) hb); clear HB; have HB := n0_; clear n0_; (try clear hb); (try clear hb2); (try clear hk); (try clear hi)) | ((with_reducible refine gate_callee (f := 12) rfl ?_); refine goesL_ (some 30) rfl rfl Try.func12 (by kernel_rfl) rfl #[.int .i64 6, .string a0, .int .i64 a1] rfl (by (try simp only [List.map_toArray, List.map_cons, List.map_nil]); first | done | rfl | (simp only [List.length_drop, List.length_take]; rfl)) ?_; (with_reducible refine (key_Ticket.calls 6 a0 a1 t336 true _ A8.out).mono ?_); rintro e w22 ⟨rfl, hb⟩; refine ⟨_, rfl, ?_⟩; have n0_ := Aside0.mk (below_step (by repeat (first | (with_reducible first | exact HB.out | apply below_alloc | apply pw_below_drewN | apply below_drew1) | exact HB.out)) hb); clear HB; have HB := n0_; clear n0_; (try clear hb); (try clear hb2); (try clear hk); (try clear hi)) | ((with_reducible refine gate_callee (f := 20) rfl ?_); refine goesL_ (some 52) rfl rfl Try.func20 (by kernel_rfl) rfl #[.string t334, .string t332] rfl (by (try simp only [List.map_toArray, List.map_cons, List.map_nil]); first | done | rfl | (simp only [List.length_drop, List.length_take]; rfl)) ?_; (with_reducible refine (key_Id.calls t334 t332 t340 false _ A10.out).mono ?_); rintro e w23 ⟨rfl, hb⟩; refine ⟨_, rfl, ?_⟩; have n0_ := Aside0.mk (below_step (by repeat (first | (with_reducible first | exact HB.out | apply below_alloc | apply pw_below_drewN | apply below_drew1) | exact HB.out)) hb); clear HB; have HB := n0_; clear n0_; (try clear hb); (try clear hb2); (try clear hk); (try clear hi)) | (go_at_call 16; (with_reducible refine (key_Check.calls t332 true _ A12.out).mono ?_); rintro e w24 ⟨rfl, hb⟩; have n0_ := Aside0.mk (below_step (by repeat (first | (with_reducible first | exact HB.out | apply below_alloc | apply pw_below_drewN | apply below_drew1) | exact HB.out)) hb); clear HB; have HB := n0_; clear n0_; (try clear hb); (try clear hb2); (try clear hk); (try clear hi)) | (go_at_call 22; (with_reducible refine (key_Under.calls t334 t332 true _ A14.out).mono ?_); rintro e w' ⟨rfl, ⟨nd, rfl⟩⟩) | (go_at_call 9; (with_reducible refine (batonlaw02_live.calls  t344 _ A19.out).mono ?_); rintro e w25 ⟨rfl, hb⟩; have n0_ := Aside0.mk (below_step (by repeat (first | (with_reducible first | exact HB.out | apply below_alloc | apply pw_below_drewN | apply below_drew1) | exact HB.out)) hb); clear HB; have HB := n0_; clear n0_; (try clear hb); (try clear hb2); (try clear hk); (try clear hi)))
                  go_ret
                  exact ⟨by first | rfl | (simp [errW_none, errW_some] <;> rfl) | (simp [*, errW_none, errW_some] <;> rfl), by repeat (first | (with_reducible first | exact HB.out | apply below_alloc | apply pw_below_drewN | apply below_drew1) | exact HB.out)⟩
              · replace c17 := Bool.eq_false_iff.mpr c17
                subst c17
                have H1 : ((batonlaw02_live.f).bind fun t345 => (some t345)) = some r := by rw [if_neg (show ¬ (false = true) by decide)] at H; exact H
                clear H
                have H := H1
                clear H1
                replace H := Option.bind_eq_some_iff.mp H
                obtain ⟨t345, A260, H⟩ := H
                replace H : (some t345) = some r := H
                have A26 := Aside0.mk A260
                clear A260
                obtain rfl := Option.some.inj H
                go_enter Try.func8, Try.ntmps8
                go_wp2_with (first | ((with_reducible refine gate_callee (f := 14) rfl ?_); refine goesL_ (some 19) rfl rfl Try.func14 (by kernel_rfl) rfl #[.string a0] rfl (by (try simp only [List.map_toArray, List.map_cons, List.map_nil]); first | done | rfl | (simp only [List.length_drop, List.length_take]; rfl)) ?_; (with_reducible refine (key_Flag.calls a0 t332 true _ A6.out).mono ?_); rintro e w27 ⟨rfl, hb⟩; refine ⟨_, rfl, ?_⟩; have n0_ := Aside0.mk (below_step (by repeat (first | (with_reducible first | exact HB.out | apply below_alloc | apply pw_below_drewN | apply below_drew1) | exact HB.out)) hb); clear HB; have HB := n0_; clear n0_; (try clear hb); (try clear hb2); (try clear hk); (try clear hi)) | ((with_reducible refine gate_callee (f := 10) rfl ?_); refine goesL_ (some 24) rfl rfl Try.func10 (by kernel_rfl) rfl #[.int .i64 6, .string a0] rfl (by (try simp only [List.map_toArray, List.map_cons, List.map_nil]); first | done | rfl | (simp only [List.length_drop, List.length_take]; rfl)) ?_; (with_reducible refine (key_Prefix.calls 6 a0 t334 true _ A7.out).mono ?_); rintro e w28 ⟨rfl, hb⟩; refine ⟨_, rfl, ?_⟩; have n0_ := Aside0.mk (below_step (by repeat (first | (with_reducible first | exact HB.out | apply below_alloc | apply pw_below_drewN | apply below_drew1) | exact HB.out)) hb); clear HB; have HB := n0_; clear n0_; (try clear hb); (try clear hb2); (try clear hk); (try clear hi)) | ((with_reducible refine gate_callee (f := 12) rfl ?_); refine goesL_ (some 30) rfl rfl Try.func12 (by kernel_rfl) rfl #[.int .i64 6, .string a0, .int .i64 a1] rfl (by (try simp only [List.map_toArray, List.map_cons, List.map_nil]); first | done | rfl | (simp only [List.length_drop, List.length_take]; rfl)) ?_; (with_reducible refine (key_Ticket.calls 6 a0 a1 t336 false _ A8.out).mono ?_); rintro e w29 ⟨rfl, hb⟩; refine ⟨_, rfl, ?_⟩; have n0_ := Aside0.mk (below_step (by repeat (first | (with_reducible first | exact HB.out | apply below_alloc | apply pw_below_drewN | apply below_drew1) | exact HB.out)) hb); clear HB; have HB := n0_; clear n0_; (try clear hb); (try clear hb2); (try clear hk); (try clear hi)) | ((with_reducible refine gate_callee (f := 20) rfl ?_); refine goesL_ (some 52) rfl rfl Try.func20 (by kernel_rfl) rfl #[.string t334, .string t332] rfl (by (try simp only [List.map_toArray, List.map_cons, List.map_nil]); first | done | rfl | (simp only [List.length_drop, List.length_take]; rfl)) ?_; (with_reducible refine (key_Id.calls t334 t332 t340 false _ A10.out).mono ?_); rintro e w30 ⟨rfl, hb⟩; refine ⟨_, rfl, ?_⟩; have n0_ := Aside0.mk (below_step (by repeat (first | (with_reducible first | exact HB.out | apply below_alloc | apply pw_below_drewN | apply below_drew1) | exact HB.out)) hb); clear HB; have HB := n0_; clear n0_; (try clear hb); (try clear hb2); (try clear hk); (try clear hi)) | (go_at_call 16; (with_reducible refine (key_Check.calls t332 true _ A12.out).mono ?_); rintro e w31 ⟨rfl, hb⟩; have n0_ := Aside0.mk (below_step (by repeat (first | (with_reducible first | exact HB.out | apply below_alloc | apply pw_below_drewN | apply below_drew1) | exact HB.out)) hb); clear HB; have HB := n0_; clear n0_; (try clear hb); (try clear hb2); (try clear hk); (try clear hi)) | (go_at_call 22; (with_reducible refine (key_Under.calls t334 t332 true _ A14.out).mono ?_); rintro e w' ⟨rfl, ⟨nd, rfl⟩⟩) | (go_at_call 9; (with_reducible refine (batonlaw02_live.calls  t345 _ A26.out).mono ?_); rintro e w32 ⟨rfl, hb⟩; have n0_ := Aside0.mk (below_step (by repeat (first | (with_reducible first | exact HB.out | apply below_alloc | apply pw_below_drewN | apply below_drew1) | exact HB.out)) hb); clear HB; have HB := n0_; clear n0_; (try clear hb); (try clear hb2); (try clear hk); (try clear hi)))
                go_ret
                exact ⟨by first | rfl | (simp [errW_none, errW_some] <;> rfl) | (simp [*, errW_none, errW_some] <;> rfl), by repeat (first | (with_reducible first | exact HB.out | apply below_alloc | apply pw_below_drewN | apply below_drew1) | exact HB.out)⟩
          · replace c15 := Bool.eq_false_iff.mpr c15
            subst c15
            have H1 : (none) = some r := by rw [if_neg (show ¬ (false = true) by decide)] at H; exact H
            clear H
            have H := H1
            clear H1
            exact absurd H (by simp)
        · replace c13 := Bool.eq_false_iff.mpr c13
          subst c13
          have H1 : (none) = some r := by rw [if_neg (show ¬ (false = true) by decide)] at H; exact H
          clear H
          have H := H1
          clear H1
          exact absurd H (by simp)
      · replace c11 := Bool.eq_false_iff.mpr c11
        subst c11
        have H1 : (none) = some r := by rw [if_neg (show ¬ (false = true) by decide)] at H; exact H
        clear H
        have H := H1
        clear H1
        exact absurd H (by simp)
    · replace c9 := Bool.eq_false_iff.mpr c9
      subst c9
      have H1 : (if t332.toList = ([] : List UInt8) then (if t335 = true then (none) else ((key_Name.f a0).bind fun t338 => (if t338 = true then (none) else ((batonlaw02_live.f).bind fun t339 => (some t339))))) else (none)) = some r := by rw [if_neg (show ¬ (false = true) by decide)] at H; exact H
      clear H
      have H := H1
      clear H1
      by_cases c33 : t332.toList = ([] : List UInt8)
      · rw [if_pos c33] at H
        have c33b0 : (t332.toList == ([] : List UInt8)) = true := beq_iff_eq.mpr c33
        have c33b1 : (t332.toList != ([] : List UInt8)) = false := bne_eq_false_iff_eq.mpr c33
        clear c33
        by_cases c34 : t335 = true
        · subst c34
          have H1 : (none) = some r := by rw [if_pos rfl] at H; exact H
          clear H
          have H := H1
          clear H1
          exact absurd H (by simp)
        · replace c34 := Bool.eq_false_iff.mpr c34
          subst c34
          have H1 : ((key_Name.f a0).bind fun t338 => (if t338 = true then (none) else ((batonlaw02_live.f).bind fun t339 => (some t339)))) = some r := by rw [if_neg (show ¬ (false = true) by decide)] at H; exact H
          clear H
          have H := H1
          clear H1
          replace H := Option.bind_eq_some_iff.mp H
          obtain ⟨t338, A350, H⟩ := H
          replace H : (if t338 = true then (none) else ((batonlaw02_live.f).bind fun t339 => (some t339))) = some r := H
          have A35 := Aside0.mk A350
          clear A350
          by_cases c36 : t338 = true
          · subst c36
            have H1 : (none) = some r := by rw [if_pos rfl] at H; exact H
            clear H
            have H := H1
            clear H1
            exact absurd H (by simp)
          · replace c36 := Bool.eq_false_iff.mpr c36
            subst c36
            have H1 : ((batonlaw02_live.f).bind fun t339 => (some t339)) = some r := by rw [if_neg (show ¬ (false = true) by decide)] at H; exact H
            clear H
            have H := H1
            clear H1
            replace H := Option.bind_eq_some_iff.mp H
            obtain ⟨t339, A370, H⟩ := H
            replace H : (some t339) = some r := H
            have A37 := Aside0.mk A370
            clear A370
            obtain rfl := Option.some.inj H
            go_enter Try.func8, Try.ntmps8
            go_wp2_with (first | ((with_reducible refine gate_callee (f := 14) rfl ?_); refine goesL_ (some 19) rfl rfl Try.func14 (by kernel_rfl) rfl #[.string a0] rfl (by (try simp only [List.map_toArray, List.map_cons, List.map_nil]); first | done | rfl | (simp only [List.length_drop, List.length_take]; rfl)) ?_; (with_reducible refine (key_Flag.calls a0 t332 false _ A6.out).mono ?_); rintro e w38 ⟨rfl, hb⟩; refine ⟨_, rfl, ?_⟩; have n0_ := Aside0.mk (below_step (by repeat (first | (with_reducible first | exact HB.out | apply below_alloc | apply pw_below_drewN | apply below_drew1) | exact HB.out)) hb); clear HB; have HB := n0_; clear n0_; (try clear hb); (try clear hb2); (try clear hk); (try clear hi)) | ((with_reducible refine gate_callee (f := 10) rfl ?_); refine goesL_ (some 24) rfl rfl Try.func10 (by kernel_rfl) rfl #[.int .i64 6, .string a0] rfl (by (try simp only [List.map_toArray, List.map_cons, List.map_nil]); first | done | rfl | (simp only [List.length_drop, List.length_take]; rfl)) ?_; (with_reducible refine (key_Prefix.calls 6 a0 t334 false _ A7.out).mono ?_); rintro e w39 ⟨rfl, hb⟩; refine ⟨_, rfl, ?_⟩; have n0_ := Aside0.mk (below_step (by repeat (first | (with_reducible first | exact HB.out | apply below_alloc | apply pw_below_drewN | apply below_drew1) | exact HB.out)) hb); clear HB; have HB := n0_; clear n0_; (try clear hb); (try clear hb2); (try clear hk); (try clear hi)) | ((with_reducible refine gate_callee (f := 12) rfl ?_); refine goesL_ (some 30) rfl rfl Try.func12 (by kernel_rfl) rfl #[.int .i64 6, .string a0, .int .i64 a1] rfl (by (try simp only [List.map_toArray, List.map_cons, List.map_nil]); first | done | rfl | (simp only [List.length_drop, List.length_take]; rfl)) ?_; (with_reducible refine (key_Ticket.calls 6 a0 a1 t336 t337 _ A8.out).mono ?_); rintro e w40 ⟨rfl, hb⟩; refine ⟨_, rfl, ?_⟩; have n0_ := Aside0.mk (below_step (by repeat (first | (with_reducible first | exact HB.out | apply below_alloc | apply pw_below_drewN | apply below_drew1) | exact HB.out)) hb); clear HB; have HB := n0_; clear n0_; (try clear hb); (try clear hb2); (try clear hk); (try clear hi)) | (go_at_call 18; (with_reducible refine (key_Name.calls a0 false _ A35.out).mono ?_); rintro e w41 ⟨rfl, hb⟩; have n0_ := Aside0.mk (below_step (by repeat (first | (with_reducible first | exact HB.out | apply below_alloc | apply pw_below_drewN | apply below_drew1) | exact HB.out)) hb); clear HB; have HB := n0_; clear n0_; (try clear hb); (try clear hb2); (try clear hk); (try clear hi)) | (go_at_call 9; (with_reducible refine (batonlaw02_live.calls  t339 _ A37.out).mono ?_); rintro e w42 ⟨rfl, hb⟩; have n0_ := Aside0.mk (below_step (by repeat (first | (with_reducible first | exact HB.out | apply below_alloc | apply pw_below_drewN | apply below_drew1) | exact HB.out)) hb); clear HB; have HB := n0_; clear n0_; (try clear hb); (try clear hb2); (try clear hk); (try clear hi)))
            go_ret
            exact ⟨by first | rfl | (simp [errW_none, errW_some] <;> rfl) | (simp [*, errW_none, errW_some] <;> rfl), by repeat (first | (with_reducible first | exact HB.out | apply below_alloc | apply pw_below_drewN | apply below_drew1) | exact HB.out)⟩
      · rw [if_neg c33] at H
        exact absurd H (by simp)

end Go.Proofs.Ytfpkkjcefdighaa.PM
