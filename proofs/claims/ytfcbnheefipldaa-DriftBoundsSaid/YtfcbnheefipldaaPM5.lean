-- made by a program of this session (wip/tools/myprint.py over the kit's print) out of the translation; Lean checks it
import Derived.Test.YtfcbnheefipldaaPM0
import Derived.Test.YtfcbnheefipldaaPM1
import Derived.Test.YtfcbnheefipldaaPM2
import Derived.Test.YtfcbnheefipldaaPM3
import Derived.Test.YtfcbnheefipldaaPM4
namespace Go.Proofs.Ytfcbnheefipldaa.PM
open Go.RowKit Go.Proofs.YtfcbnheefipldaaW.PrintWords Go.Proofs.YtfcbnheefipldaaW.PrintLast Go.Proofs.YtfcbnheefipldaaW.PrintMore
attribute [local go_sem] max2_int min2_int max_two min_two max_three min_three max_four min_four   -- for this text's walks alone
set_option linter.unusedVariables false
set_option linter.unusedSimpArgs false

/-! ### batonlaw11_live: function 8 -/
def batonlaw11_live.f  : Option (Bool) := (drift_Span.f 3).bind fun bt106 => ((drift_Rate.f 9 true).bind fun t108 => (if t108 = 15 then ((drift_Rate.f 99 true).bind fun t109 => (if t109 = 17 then ((drift_Rate.f 16 true).bind fun t110 => (if t110 = 16 then ((drift_Rate.f (-1) false).bind fun t111 => (if t111 = 0 then ((drift_Rate.f 99 false).bind fun t112 => (if t112 = 64 then ((drift_Run.f 5 (([15, 99, 0] : List Int)) true).bind fun t116 => (if t116 = 52 then ((drift_Run.f 5 (([15, 99, 0] : List Int)) false).bind fun t120 => (if t120 = 84 then ((drift_Run.f (-5) (([15] : List Int)) true).bind fun t124 => (if t124 = (-5) then ((drift_Safe.f 34).bind fun t125 => (if t125 = 30 then ((drift_Safe.f 0).bind fun t126 => (if t126 = 0 then (if bt106.1 = 45 then (if bt106.2 = 51 then ((drift_Fits.f 34 (([15, 15, 15] : List Int)) (([17, 17, 17] : List Int))).bind fun t133 => (if t133 = true then ((drift_Fits.f 1 ([] : List Int) ([] : List Int)).bind fun t134 => (some (!t134))) else (none))) else (none)) else (none)) else (none))) else (none))) else (none))) else (none))) else (none))) else (none))) else (none))) else (none))) else (none))) else (none)))
set_option maxHeartbeats 8000000 in
set_option maxRecDepth 100000 in
theorem batonlaw11_live.calls  (r : Bool) (w : World) (h : batonlaw11_live.f  = some r) :
    Calls Try.prog 8 #[] w fun e w' => e = .returned (.bool r) ∧ Below w.heap.size w w' := by
  have HB := Aside0.mk (Below.refl w.heap.size w)
  have H : ((drift_Span.f 3).bind fun bt106 => ((drift_Rate.f 9 true).bind fun t108 => (if t108 = 15 then ((drift_Rate.f 99 true).bind fun t109 => (if t109 = 17 then ((drift_Rate.f 16 true).bind fun t110 => (if t110 = 16 then ((drift_Rate.f (-1) false).bind fun t111 => (if t111 = 0 then ((drift_Rate.f 99 false).bind fun t112 => (if t112 = 64 then ((drift_Run.f 5 (([15, 99, 0] : List Int)) true).bind fun t116 => (if t116 = 52 then ((drift_Run.f 5 (([15, 99, 0] : List Int)) false).bind fun t120 => (if t120 = 84 then ((drift_Run.f (-5) (([15] : List Int)) true).bind fun t124 => (if t124 = (-5) then ((drift_Safe.f 34).bind fun t125 => (if t125 = 30 then ((drift_Safe.f 0).bind fun t126 => (if t126 = 0 then (if bt106.1 = 45 then (if bt106.2 = 51 then ((drift_Fits.f 34 (([15, 15, 15] : List Int)) (([17, 17, 17] : List Int))).bind fun t133 => (if t133 = true then ((drift_Fits.f 1 ([] : List Int) ([] : List Int)).bind fun t134 => (some (!t134))) else (none))) else (none)) else (none)) else (none))) else (none))) else (none))) else (none))) else (none))) else (none))) else (none))) else (none))) else (none))) else (none)))) = some r := h
  clear h
  replace H := Option.bind_eq_some_iff.mp H
  obtain ⟨⟨t106, t107⟩, A10, H⟩ := H
  replace H : ((drift_Rate.f 9 true).bind fun t108 => (if t108 = 15 then ((drift_Rate.f 99 true).bind fun t109 => (if t109 = 17 then ((drift_Rate.f 16 true).bind fun t110 => (if t110 = 16 then ((drift_Rate.f (-1) false).bind fun t111 => (if t111 = 0 then ((drift_Rate.f 99 false).bind fun t112 => (if t112 = 64 then ((drift_Run.f 5 (([15, 99, 0] : List Int)) true).bind fun t116 => (if t116 = 52 then ((drift_Run.f 5 (([15, 99, 0] : List Int)) false).bind fun t120 => (if t120 = 84 then ((drift_Run.f (-5) (([15] : List Int)) true).bind fun t124 => (if t124 = (-5) then ((drift_Safe.f 34).bind fun t125 => (if t125 = 30 then ((drift_Safe.f 0).bind fun t126 => (if t126 = 0 then (if t106 = 45 then (if t107 = 51 then ((drift_Fits.f 34 (([15, 15, 15] : List Int)) (([17, 17, 17] : List Int))).bind fun t133 => (if t133 = true then ((drift_Fits.f 1 ([] : List Int) ([] : List Int)).bind fun t134 => (some (!t134))) else (none))) else (none)) else (none)) else (none))) else (none))) else (none))) else (none))) else (none))) else (none))) else (none))) else (none))) else (none))) else (none))) = some r := H
  have A1 := Aside0.mk A10
  clear A10
  replace H := Option.bind_eq_some_iff.mp H
  obtain ⟨t108, A20, H⟩ := H
  replace H : (if t108 = 15 then ((drift_Rate.f 99 true).bind fun t109 => (if t109 = 17 then ((drift_Rate.f 16 true).bind fun t110 => (if t110 = 16 then ((drift_Rate.f (-1) false).bind fun t111 => (if t111 = 0 then ((drift_Rate.f 99 false).bind fun t112 => (if t112 = 64 then ((drift_Run.f 5 (([15, 99, 0] : List Int)) true).bind fun t116 => (if t116 = 52 then ((drift_Run.f 5 (([15, 99, 0] : List Int)) false).bind fun t120 => (if t120 = 84 then ((drift_Run.f (-5) (([15] : List Int)) true).bind fun t124 => (if t124 = (-5) then ((drift_Safe.f 34).bind fun t125 => (if t125 = 30 then ((drift_Safe.f 0).bind fun t126 => (if t126 = 0 then (if t106 = 45 then (if t107 = 51 then ((drift_Fits.f 34 (([15, 15, 15] : List Int)) (([17, 17, 17] : List Int))).bind fun t133 => (if t133 = true then ((drift_Fits.f 1 ([] : List Int) ([] : List Int)).bind fun t134 => (some (!t134))) else (none))) else (none)) else (none)) else (none))) else (none))) else (none))) else (none))) else (none))) else (none))) else (none))) else (none))) else (none))) else (none)) = some r := H
  have A2 := Aside0.mk A20
  clear A20
  by_cases c3 : t108 = 15
  · rw [if_pos c3] at H
    have c3b0 : (t108 == 15) = true := beq_iff_eq.mpr c3
    have c3b1 : (t108 != 15) = false := bne_eq_false_iff_eq.mpr c3
    clear c3
    replace H := Option.bind_eq_some_iff.mp H
    obtain ⟨t109, A40, H⟩ := H
    replace H : (if t109 = 17 then ((drift_Rate.f 16 true).bind fun t110 => (if t110 = 16 then ((drift_Rate.f (-1) false).bind fun t111 => (if t111 = 0 then ((drift_Rate.f 99 false).bind fun t112 => (if t112 = 64 then ((drift_Run.f 5 (([15, 99, 0] : List Int)) true).bind fun t116 => (if t116 = 52 then ((drift_Run.f 5 (([15, 99, 0] : List Int)) false).bind fun t120 => (if t120 = 84 then ((drift_Run.f (-5) (([15] : List Int)) true).bind fun t124 => (if t124 = (-5) then ((drift_Safe.f 34).bind fun t125 => (if t125 = 30 then ((drift_Safe.f 0).bind fun t126 => (if t126 = 0 then (if t106 = 45 then (if t107 = 51 then ((drift_Fits.f 34 (([15, 15, 15] : List Int)) (([17, 17, 17] : List Int))).bind fun t133 => (if t133 = true then ((drift_Fits.f 1 ([] : List Int) ([] : List Int)).bind fun t134 => (some (!t134))) else (none))) else (none)) else (none)) else (none))) else (none))) else (none))) else (none))) else (none))) else (none))) else (none))) else (none))) else (none)) = some r := H
    have A4 := Aside0.mk A40
    clear A40
    by_cases c5 : t109 = 17
    · rw [if_pos c5] at H
      have c5b0 : (t109 == 17) = true := beq_iff_eq.mpr c5
      have c5b1 : (t109 != 17) = false := bne_eq_false_iff_eq.mpr c5
      clear c5
      replace H := Option.bind_eq_some_iff.mp H
      obtain ⟨t110, A60, H⟩ := H
      replace H : (if t110 = 16 then ((drift_Rate.f (-1) false).bind fun t111 => (if t111 = 0 then ((drift_Rate.f 99 false).bind fun t112 => (if t112 = 64 then ((drift_Run.f 5 (([15, 99, 0] : List Int)) true).bind fun t116 => (if t116 = 52 then ((drift_Run.f 5 (([15, 99, 0] : List Int)) false).bind fun t120 => (if t120 = 84 then ((drift_Run.f (-5) (([15] : List Int)) true).bind fun t124 => (if t124 = (-5) then ((drift_Safe.f 34).bind fun t125 => (if t125 = 30 then ((drift_Safe.f 0).bind fun t126 => (if t126 = 0 then (if t106 = 45 then (if t107 = 51 then ((drift_Fits.f 34 (([15, 15, 15] : List Int)) (([17, 17, 17] : List Int))).bind fun t133 => (if t133 = true then ((drift_Fits.f 1 ([] : List Int) ([] : List Int)).bind fun t134 => (some (!t134))) else (none))) else (none)) else (none)) else (none))) else (none))) else (none))) else (none))) else (none))) else (none))) else (none))) else (none)) = some r := H
      have A6 := Aside0.mk A60
      clear A60
      by_cases c7 : t110 = 16
      · rw [if_pos c7] at H
        have c7b0 : (t110 == 16) = true := beq_iff_eq.mpr c7
        have c7b1 : (t110 != 16) = false := bne_eq_false_iff_eq.mpr c7
        clear c7
        replace H := Option.bind_eq_some_iff.mp H
        obtain ⟨t111, A80, H⟩ := H
        replace H : (if t111 = 0 then ((drift_Rate.f 99 false).bind fun t112 => (if t112 = 64 then ((drift_Run.f 5 (([15, 99, 0] : List Int)) true).bind fun t116 => (if t116 = 52 then ((drift_Run.f 5 (([15, 99, 0] : List Int)) false).bind fun t120 => (if t120 = 84 then ((drift_Run.f (-5) (([15] : List Int)) true).bind fun t124 => (if t124 = (-5) then ((drift_Safe.f 34).bind fun t125 => (if t125 = 30 then ((drift_Safe.f 0).bind fun t126 => (if t126 = 0 then (if t106 = 45 then (if t107 = 51 then ((drift_Fits.f 34 (([15, 15, 15] : List Int)) (([17, 17, 17] : List Int))).bind fun t133 => (if t133 = true then ((drift_Fits.f 1 ([] : List Int) ([] : List Int)).bind fun t134 => (some (!t134))) else (none))) else (none)) else (none)) else (none))) else (none))) else (none))) else (none))) else (none))) else (none))) else (none)) = some r := H
        have A8 := Aside0.mk A80
        clear A80
        by_cases c9 : t111 = 0
        · rw [if_pos c9] at H
          have c9b0 : (t111 == 0) = true := beq_iff_eq.mpr c9
          have c9b1 : (t111 != 0) = false := bne_eq_false_iff_eq.mpr c9
          clear c9
          replace H := Option.bind_eq_some_iff.mp H
          obtain ⟨t112, A100, H⟩ := H
          replace H : (if t112 = 64 then ((drift_Run.f 5 (([15, 99, 0] : List Int)) true).bind fun t116 => (if t116 = 52 then ((drift_Run.f 5 (([15, 99, 0] : List Int)) false).bind fun t120 => (if t120 = 84 then ((drift_Run.f (-5) (([15] : List Int)) true).bind fun t124 => (if t124 = (-5) then ((drift_Safe.f 34).bind fun t125 => (if t125 = 30 then ((drift_Safe.f 0).bind fun t126 => (if t126 = 0 then (if t106 = 45 then (if t107 = 51 then ((drift_Fits.f 34 (([15, 15, 15] : List Int)) (([17, 17, 17] : List Int))).bind fun t133 => (if t133 = true then ((drift_Fits.f 1 ([] : List Int) ([] : List Int)).bind fun t134 => (some (!t134))) else (none))) else (none)) else (none)) else (none))) else (none))) else (none))) else (none))) else (none))) else (none)) = some r := H
          have A10 := Aside0.mk A100
          clear A100
          by_cases c11 : t112 = 64
          · rw [if_pos c11] at H
            have c11b0 : (t112 == 64) = true := beq_iff_eq.mpr c11
            have c11b1 : (t112 != 64) = false := bne_eq_false_iff_eq.mpr c11
            clear c11
            obtain ⟨y113, hy113⟩ : ∃ y_ : List Int, y_ = (([15, 99, 0] : List Int)) := ⟨_, rfl⟩
            replace H : ((drift_Run.f 5 y113 true).bind fun t116 => (if t116 = 52 then ((drift_Run.f 5 (([15, 99, 0] : List Int)) false).bind fun t120 => (if t120 = 84 then ((drift_Run.f (-5) (([15] : List Int)) true).bind fun t124 => (if t124 = (-5) then ((drift_Safe.f 34).bind fun t125 => (if t125 = 30 then ((drift_Safe.f 0).bind fun t126 => (if t126 = 0 then (if t106 = 45 then (if t107 = 51 then ((drift_Fits.f 34 (([15, 15, 15] : List Int)) (([17, 17, 17] : List Int))).bind fun t133 => (if t133 = true then ((drift_Fits.f 1 ([] : List Int) ([] : List Int)).bind fun t134 => (some (!t134))) else (none))) else (none)) else (none)) else (none))) else (none))) else (none))) else (none))) else (none))) = some r := by first | (rw [hy113]; with_reducible exact H) | (have H2_ := (Option.bind_some _ _).symm.trans H; rw [hy113]; with_reducible exact H2_) | (have H2_ := (Option.bind_some _ _).symm.trans H; with_reducible exact H2_) | with_reducible exact H | (rw [hy113]; exact H) | exact H
            have Ny113 := Aside0.mk hy113
            clear hy113
            replace H := Option.bind_eq_some_iff.mp H
            obtain ⟨t116, A120, H⟩ := H
            replace H : (if t116 = 52 then ((drift_Run.f 5 (([15, 99, 0] : List Int)) false).bind fun t120 => (if t120 = 84 then ((drift_Run.f (-5) (([15] : List Int)) true).bind fun t124 => (if t124 = (-5) then ((drift_Safe.f 34).bind fun t125 => (if t125 = 30 then ((drift_Safe.f 0).bind fun t126 => (if t126 = 0 then (if t106 = 45 then (if t107 = 51 then ((drift_Fits.f 34 (([15, 15, 15] : List Int)) (([17, 17, 17] : List Int))).bind fun t133 => (if t133 = true then ((drift_Fits.f 1 ([] : List Int) ([] : List Int)).bind fun t134 => (some (!t134))) else (none))) else (none)) else (none)) else (none))) else (none))) else (none))) else (none))) else (none)) = some r := H
            have A12 := Aside0.mk A120
            clear A120
            by_cases c13 : t116 = 52
            · rw [if_pos c13] at H
              have c13b0 : (t116 == 52) = true := beq_iff_eq.mpr c13
              have c13b1 : (t116 != 52) = false := bne_eq_false_iff_eq.mpr c13
              clear c13
              obtain ⟨y117, hy117⟩ : ∃ y_ : List Int, y_ = (([15, 99, 0] : List Int)) := ⟨_, rfl⟩
              replace H : ((drift_Run.f 5 y117 false).bind fun t120 => (if t120 = 84 then ((drift_Run.f (-5) (([15] : List Int)) true).bind fun t124 => (if t124 = (-5) then ((drift_Safe.f 34).bind fun t125 => (if t125 = 30 then ((drift_Safe.f 0).bind fun t126 => (if t126 = 0 then (if t106 = 45 then (if t107 = 51 then ((drift_Fits.f 34 (([15, 15, 15] : List Int)) (([17, 17, 17] : List Int))).bind fun t133 => (if t133 = true then ((drift_Fits.f 1 ([] : List Int) ([] : List Int)).bind fun t134 => (some (!t134))) else (none))) else (none)) else (none)) else (none))) else (none))) else (none))) else (none))) = some r := by first | (rw [hy117]; with_reducible exact H) | (have H2_ := (Option.bind_some _ _).symm.trans H; rw [hy117]; with_reducible exact H2_) | (have H2_ := (Option.bind_some _ _).symm.trans H; with_reducible exact H2_) | with_reducible exact H | (rw [hy117]; exact H) | exact H
              have Ny117 := Aside0.mk hy117
              clear hy117
              replace H := Option.bind_eq_some_iff.mp H
              obtain ⟨t120, A140, H⟩ := H
              replace H : (if t120 = 84 then ((drift_Run.f (-5) (([15] : List Int)) true).bind fun t124 => (if t124 = (-5) then ((drift_Safe.f 34).bind fun t125 => (if t125 = 30 then ((drift_Safe.f 0).bind fun t126 => (if t126 = 0 then (if t106 = 45 then (if t107 = 51 then ((drift_Fits.f 34 (([15, 15, 15] : List Int)) (([17, 17, 17] : List Int))).bind fun t133 => (if t133 = true then ((drift_Fits.f 1 ([] : List Int) ([] : List Int)).bind fun t134 => (some (!t134))) else (none))) else (none)) else (none)) else (none))) else (none))) else (none))) else (none)) = some r := H
              have A14 := Aside0.mk A140
              clear A140
              by_cases c15 : t120 = 84
              · rw [if_pos c15] at H
                have c15b0 : (t120 == 84) = true := beq_iff_eq.mpr c15
                have c15b1 : (t120 != 84) = false := bne_eq_false_iff_eq.mpr c15
                clear c15
                obtain ⟨y121, hy121⟩ : ∃ y_ : List Int, y_ = (([15] : List Int)) := ⟨_, rfl⟩
                replace H : ((drift_Run.f (-5) y121 true).bind fun t124 => (if t124 = (-5) then ((drift_Safe.f 34).bind fun t125 => (if t125 = 30 then ((drift_Safe.f 0).bind fun t126 => (if t126 = 0 then (if t106 = 45 then (if t107 = 51 then ((drift_Fits.f 34 (([15, 15, 15] : List Int)) (([17, 17, 17] : List Int))).bind fun t133 => (if t133 = true then ((drift_Fits.f 1 ([] : List Int) ([] : List Int)).bind fun t134 => (some (!t134))) else (none))) else (none)) else (none)) else (none))) else (none))) else (none))) = some r := by first | (rw [hy121]; with_reducible exact H) | (have H2_ := (Option.bind_some _ _).symm.trans H; rw [hy121]; with_reducible exact H2_) | (have H2_ := (Option.bind_some _ _).symm.trans H; with_reducible exact H2_) | with_reducible exact H | (rw [hy121]; exact H) | exact H
                have Ny121 := Aside0.mk hy121
                clear hy121
                replace H := Option.bind_eq_some_iff.mp H
                obtain ⟨t124, A160, H⟩ := H
                replace H : (if t124 = (-5) then ((drift_Safe.f 34).bind fun t125 => (if t125 = 30 then ((drift_Safe.f 0).bind fun t126 => (if t126 = 0 then (if t106 = 45 then (if t107 = 51 then ((drift_Fits.f 34 (([15, 15, 15] : List Int)) (([17, 17, 17] : List Int))).bind fun t133 => (if t133 = true then ((drift_Fits.f 1 ([] : List Int) ([] : List Int)).bind fun t134 => (some (!t134))) else (none))) else (none)) else (none)) else (none))) else (none))) else (none)) = some r := H
                have A16 := Aside0.mk A160
                clear A160
                by_cases c17 : t124 = (-5)
                · rw [if_pos c17] at H
                  have c17b0 : (t124 == (-5)) = true := beq_iff_eq.mpr c17
                  have c17b1 : (t124 != (-5)) = false := bne_eq_false_iff_eq.mpr c17
                  clear c17
                  replace H := Option.bind_eq_some_iff.mp H
                  obtain ⟨t125, A180, H⟩ := H
                  replace H : (if t125 = 30 then ((drift_Safe.f 0).bind fun t126 => (if t126 = 0 then (if t106 = 45 then (if t107 = 51 then ((drift_Fits.f 34 (([15, 15, 15] : List Int)) (([17, 17, 17] : List Int))).bind fun t133 => (if t133 = true then ((drift_Fits.f 1 ([] : List Int) ([] : List Int)).bind fun t134 => (some (!t134))) else (none))) else (none)) else (none)) else (none))) else (none)) = some r := H
                  have A18 := Aside0.mk A180
                  clear A180
                  by_cases c19 : t125 = 30
                  · rw [if_pos c19] at H
                    have c19b0 : (t125 == 30) = true := beq_iff_eq.mpr c19
                    have c19b1 : (t125 != 30) = false := bne_eq_false_iff_eq.mpr c19
                    clear c19
                    replace H := Option.bind_eq_some_iff.mp H
                    obtain ⟨t126, A200, H⟩ := H
                    replace H : (if t126 = 0 then (if t106 = 45 then (if t107 = 51 then ((drift_Fits.f 34 (([15, 15, 15] : List Int)) (([17, 17, 17] : List Int))).bind fun t133 => (if t133 = true then ((drift_Fits.f 1 ([] : List Int) ([] : List Int)).bind fun t134 => (some (!t134))) else (none))) else (none)) else (none)) else (none)) = some r := H
                    have A20 := Aside0.mk A200
                    clear A200
                    by_cases c21 : t126 = 0
                    · rw [if_pos c21] at H
                      have c21b0 : (t126 == 0) = true := beq_iff_eq.mpr c21
                      have c21b1 : (t126 != 0) = false := bne_eq_false_iff_eq.mpr c21
                      clear c21
                      by_cases c22 : t106 = 45
                      · rw [if_pos c22] at H
                        have c22b0 : (t106 == 45) = true := beq_iff_eq.mpr c22
                        have c22b1 : (t106 != 45) = false := bne_eq_false_iff_eq.mpr c22
                        clear c22
                        by_cases c23 : t107 = 51
                        · rw [if_pos c23] at H
                          have c23b0 : (t107 == 51) = true := beq_iff_eq.mpr c23
                          have c23b1 : (t107 != 51) = false := bne_eq_false_iff_eq.mpr c23
                          clear c23
                          obtain ⟨y127, hy127⟩ : ∃ y_ : List Int, y_ = (([15, 15, 15] : List Int)) := ⟨_, rfl⟩
                          replace H : ((drift_Fits.f 34 y127 (([17, 17, 17] : List Int))).bind fun t133 => (if t133 = true then ((drift_Fits.f 1 ([] : List Int) ([] : List Int)).bind fun t134 => (some (!t134))) else (none))) = some r := by first | (rw [hy127]; with_reducible exact H) | (have H2_ := (Option.bind_some _ _).symm.trans H; rw [hy127]; with_reducible exact H2_) | (have H2_ := (Option.bind_some _ _).symm.trans H; with_reducible exact H2_) | with_reducible exact H | (rw [hy127]; exact H) | exact H
                          have Ny127 := Aside0.mk hy127
                          clear hy127
                          obtain ⟨y130, hy130⟩ : ∃ y_ : List Int, y_ = (([17, 17, 17] : List Int)) := ⟨_, rfl⟩
                          replace H : ((drift_Fits.f 34 y127 y130).bind fun t133 => (if t133 = true then ((drift_Fits.f 1 ([] : List Int) ([] : List Int)).bind fun t134 => (some (!t134))) else (none))) = some r := by first | (rw [hy130]; with_reducible exact H) | (have H2_ := (Option.bind_some _ _).symm.trans H; rw [hy130]; with_reducible exact H2_) | (have H2_ := (Option.bind_some _ _).symm.trans H; with_reducible exact H2_) | with_reducible exact H | (rw [hy130]; exact H) | exact H
                          have Ny130 := Aside0.mk hy130
                          clear hy130
                          replace H := Option.bind_eq_some_iff.mp H
                          obtain ⟨t133, A240, H⟩ := H
                          replace H : (if t133 = true then ((drift_Fits.f 1 ([] : List Int) ([] : List Int)).bind fun t134 => (some (!t134))) else (none)) = some r := H
                          have A24 := Aside0.mk A240
                          clear A240
                          by_cases c25 : t133 = true
                          · subst c25
                            have H1 : ((drift_Fits.f 1 ([] : List Int) ([] : List Int)).bind fun t134 => (some (!t134))) = some r := by rw [if_pos rfl] at H; exact H
                            clear H
                            have H := H1
                            clear H1
                            replace H := Option.bind_eq_some_iff.mp H
                            obtain ⟨t134, A260, H⟩ := H
                            replace H : (some (!t134)) = some r := H
                            have A26 := Aside0.mk A260
                            clear A260
                            obtain rfl := Option.some.inj H
                            go_enter Try.func8, Try.ntmps8
                            go_wp2_with (first | ((with_reducible refine gate_callee (f := 13) rfl ?_); refine goesL_ (some 4) rfl rfl Try.func13 (by kernel_rfl) rfl #[.int .i64 3] rfl (by (try simp only [List.map_toArray, List.map_cons, List.map_nil]); first | done | rfl | (simp only [List.length_drop, List.length_take]; rfl)) ?_; (with_reducible refine (drift_Span.calls 3 t106 t107 _ A1.out).mono ?_); rintro e w' ⟨rfl, ⟨nd, rfl⟩⟩; refine ⟨_, rfl, ?_⟩) | ((with_reducible refine gate_callee (f := 9) rfl ?_); refine goesL_ (some 7) rfl rfl Try.func9 (by kernel_rfl) rfl #[.int .i64 9, .bool true] rfl (by (try simp only [List.map_toArray, List.map_cons, List.map_nil]); first | done | rfl | (simp only [List.length_drop, List.length_take]; rfl)) ?_; (with_reducible refine (drift_Rate.calls 9 true t108 _ A2.out).mono ?_); rintro e w27 ⟨rfl, hb⟩; refine ⟨_, rfl, ?_⟩; have n0_ := Aside0.mk (below_step (by repeat (first | (with_reducible first | exact HB.out | apply below_alloc | apply pw_below_drewN | apply below_drew1) | exact HB.out)) hb); clear HB; have HB := n0_; clear n0_; (try clear hb); (try clear hb2); (try clear hk); (try clear hi)) | (go_at_call 9; (with_reducible refine (drift_Rate.calls 99 true t109 _ A4.out).mono ?_); rintro e w28 ⟨rfl, hb⟩; have n0_ := Aside0.mk (below_step (by repeat (first | (with_reducible first | exact HB.out | apply below_alloc | apply pw_below_drewN | apply below_drew1) | exact HB.out)) hb); clear HB; have HB := n0_; clear n0_; (try clear hb); (try clear hb2); (try clear hk); (try clear hi)) | (go_at_call 9; (with_reducible refine (drift_Rate.calls 16 true t110 _ A6.out).mono ?_); rintro e w29 ⟨rfl, hb⟩; have n0_ := Aside0.mk (below_step (by repeat (first | (with_reducible first | exact HB.out | apply below_alloc | apply pw_below_drewN | apply below_drew1) | exact HB.out)) hb); clear HB; have HB := n0_; clear n0_; (try clear hb); (try clear hb2); (try clear hk); (try clear hi)) | (go_at_call 9; (with_reducible refine (drift_Rate.calls (-1) false t111 _ A8.out).mono ?_); rintro e w30 ⟨rfl, hb⟩; have n0_ := Aside0.mk (below_step (by repeat (first | (with_reducible first | exact HB.out | apply below_alloc | apply pw_below_drewN | apply below_drew1) | exact HB.out)) hb); clear HB; have HB := n0_; clear n0_; (try clear hb); (try clear hb2); (try clear hk); (try clear hi)) | (go_at_call 9; (with_reducible refine (drift_Rate.calls 99 false t112 _ A10.out).mono ?_); rintro e w31 ⟨rfl, hb⟩; have n0_ := Aside0.mk (below_step (by repeat (first | (with_reducible first | exact HB.out | apply below_alloc | apply pw_below_drewN | apply below_drew1) | exact HB.out)) hb); clear HB; have HB := n0_; clear n0_; (try clear hb); (try clear hb2); (try clear hk); (try clear hi)) | ((with_reducible refine gate_dst (N := 26) rfl ?_); (try (refine gate_guard (by rfl) ?_; dsimp only)); refine Kd.R_lit (Kd.int .i64) _ 3 ?hg (N := 26) ?hd (xs := ([15, 99, 0] : List Int)) (inner := [.int .i64 15, .int .i64 99, .int .i64 0]) (ok := fun _ => True) (okp := fun _ => True) ?hr ?hp (fun _ hk => hk) trivial (Below.refl _ _) (Nat.le_refl _) (by simp) ?_; (case hd => rfl); (case hg => rfl); (case hr => first | (go_simp; done) | (go_simp; rfl)); (case hp => exact (Reps.one (show Kd.M (Kd.int .i64) _ _ _ 15 [.int .i64 15] from rfl) (Reps.one (show Kd.M (Kd.int .i64) _ _ _ 99 [.int .i64 99] from rfl) (Reps.one (show Kd.M (Kd.int .i64) _ _ _ 0 [.int .i64 0] from rfl) (Reps.none _ _))))); intro v114 w32 ho33 hb hg_ hnew_; clear hg_ hnew_; (first | rw [← Ny113.out] at ho33 | (simp only [Int.reduceToNat] at ho33; rw [← Ny113.out] at ho33)); have n0_ := Aside0.mk (Kd.R_lower ho33 (below_size (by repeat (first | (with_reducible first | exact HB.out | apply below_alloc | apply pw_below_drewN | apply below_drew1) | exact HB.out)))); have n1_ := Aside0.mk (below_step (by repeat (first | (with_reducible first | exact HB.out | apply below_alloc | apply pw_below_drewN | apply below_drew1) | exact HB.out)) hb); clear HB; have HO115 := n0_; have HB := n1_; clear n0_ n1_; clear hb ho33; obtain ⟨Ao34, co34, eo34⟩ := Kd.R_slice HO115.out; subst eo34) | (go_at_call 11; (with_reducible refine (drift_Run.calls 5 _ _ y113 true t116 _ ?side1 ?side2 A12.out).mono ?_); (case side1 => repeat (first | exact (Kd.R_reads' HO115.out).2.2 | (with_reducible refine Kd.C_alloc ?_ _) | (with_reducible refine Kd.C_drewN ?_ _) | (with_reducible refine Kd.C_drew ?_))); (case side2 => exact (Kd.R_reads' HO115.out).2.1); rintro e w35 ⟨rfl, hb⟩; have n0_ := Aside0.mk (Kd.R_below (by (with_reducible repeat (first | apply Kd.R_alloc | apply Kd.R_drewN | apply Kd.R_drew)); exact HO115.out) hb); have n1_ := Aside0.mk (below_step (by repeat (first | (with_reducible first | exact HB.out | apply below_alloc | apply pw_below_drewN | apply below_drew1) | exact HB.out)) hb); clear HO115; clear HB; have HO115 := n0_; have HB := n1_; clear n0_ n1_; (try clear hb); (try clear hb2); (try clear hk); (try clear hi)) | ((with_reducible refine gate_dst (N := 31) rfl ?_); (try (refine gate_guard (by rfl) ?_; dsimp only)); refine Kd.R_lit (Kd.int .i64) _ 3 ?hg (N := 31) ?hd (xs := ([15, 99, 0] : List Int)) (inner := [.int .i64 15, .int .i64 99, .int .i64 0]) (ok := fun _ => True) (okp := fun _ => True) ?hr ?hp (fun _ hk => hk) trivial (Below.refl _ _) (Nat.le_refl _) (by simp) ?_; (case hd => rfl); (case hg => rfl); (case hr => first | (go_simp; done) | (go_simp; rfl)); (case hp => exact (Reps.one (show Kd.M (Kd.int .i64) _ _ _ 15 [.int .i64 15] from rfl) (Reps.one (show Kd.M (Kd.int .i64) _ _ _ 99 [.int .i64 99] from rfl) (Reps.one (show Kd.M (Kd.int .i64) _ _ _ 0 [.int .i64 0] from rfl) (Reps.none _ _))))); intro v118 w36 ho37 hb hg_ hnew_; clear hg_ hnew_; (first | rw [← Ny117.out] at ho37 | (simp only [Int.reduceToNat] at ho37; rw [← Ny117.out] at ho37)); have n0_ := Aside0.mk (Kd.R_elder' (by (with_reducible repeat (first | apply Kd.R_alloc | apply Kd.R_drewN | apply Kd.R_drew)); exact HO115.out) (Kd.R_base ho37) hb); have n1_ := Aside0.mk (Kd.R_lower (Kd.R_new' ho37 (Kd.R_lt (by (with_reducible repeat (first | apply Kd.R_alloc | apply Kd.R_drewN | apply Kd.R_drew)); exact HO115.out))) (below_size (by repeat (first | (with_reducible first | exact HB.out | apply below_alloc | apply pw_below_drewN | apply below_drew1) | exact HB.out)))); have n2_ := Aside0.mk (below_step (by repeat (first | (with_reducible first | exact HB.out | apply below_alloc | apply pw_below_drewN | apply below_drew1) | exact HB.out)) hb); clear HO115; clear HB; have HO115 := n0_; have HO119 := n1_; have HB := n2_; clear n0_ n1_ n2_; clear hb ho37; obtain ⟨Ao38, co38, eo38⟩ := Kd.R_slice HO119.out; subst eo38) | (go_at_call 11; (with_reducible refine (drift_Run.calls 5 _ _ y117 false t120 _ ?side1 ?side2 A14.out).mono ?_); (case side1 => repeat (first | exact (Kd.R_reads' HO119.out).2.2 | (with_reducible refine Kd.C_alloc ?_ _) | (with_reducible refine Kd.C_drewN ?_ _) | (with_reducible refine Kd.C_drew ?_))); (case side2 => exact (Kd.R_reads' HO119.out).2.1); rintro e w39 ⟨rfl, hb⟩; have n0_ := Aside0.mk (Kd.R_below (by (with_reducible repeat (first | apply Kd.R_alloc | apply Kd.R_drewN | apply Kd.R_drew)); exact HO115.out) hb); have n1_ := Aside0.mk (Kd.R_below (by (with_reducible repeat (first | apply Kd.R_alloc | apply Kd.R_drewN | apply Kd.R_drew)); exact HO119.out) hb); have n2_ := Aside0.mk (below_step (by repeat (first | (with_reducible first | exact HB.out | apply below_alloc | apply pw_below_drewN | apply below_drew1) | exact HB.out)) hb); clear HO115; clear HO119; clear HB; have HO115 := n0_; have HO119 := n1_; have HB := n2_; clear n0_ n1_ n2_; (try clear hb); (try clear hb2); (try clear hk); (try clear hi)) | ((with_reducible refine gate_dst (N := 36) rfl ?_); (try (refine gate_guard (by rfl) ?_; dsimp only)); refine Kd.R_lit (Kd.int .i64) _ 3 ?hg (N := 36) ?hd (xs := ([15] : List Int)) (inner := [.int .i64 15]) (ok := fun _ => True) (okp := fun _ => True) ?hr ?hp (fun _ hk => hk) trivial (Below.refl _ _) (Nat.le_refl _) (by simp) ?_; (case hd => rfl); (case hg => rfl); (case hr => first | (go_simp; done) | (go_simp; rfl)); (case hp => exact (Reps.one (show Kd.M (Kd.int .i64) _ _ _ 15 [.int .i64 15] from rfl) (Reps.none _ _))); intro v122 w40 ho41 hb hg_ hnew_; clear hg_ hnew_; (first | rw [← Ny121.out] at ho41 | (simp only [Int.reduceToNat] at ho41; rw [← Ny121.out] at ho41)); have n0_ := Aside0.mk (Kd.R_elder' (by (with_reducible repeat (first | apply Kd.R_alloc | apply Kd.R_drewN | apply Kd.R_drew)); exact HO115.out) (Kd.R_base ho41) hb); have n1_ := Aside0.mk (Kd.R_elder' (by (with_reducible repeat (first | apply Kd.R_alloc | apply Kd.R_drewN | apply Kd.R_drew)); exact HO119.out) (Kd.R_base ho41) hb); have n2_ := Aside0.mk (Kd.R_lower (Kd.R_new' (Kd.R_new' ho41 (Kd.R_lt (by (with_reducible repeat (first | apply Kd.R_alloc | apply Kd.R_drewN | apply Kd.R_drew)); exact HO115.out))) (Kd.R_lt (by (with_reducible repeat (first | apply Kd.R_alloc | apply Kd.R_drewN | apply Kd.R_drew)); exact HO119.out))) (below_size (by repeat (first | (with_reducible first | exact HB.out | apply below_alloc | apply pw_below_drewN | apply below_drew1) | exact HB.out)))); have n3_ := Aside0.mk (below_step (by repeat (first | (with_reducible first | exact HB.out | apply below_alloc | apply pw_below_drewN | apply below_drew1) | exact HB.out)) hb); clear HO115; clear HO119; clear HB; have HO115 := n0_; have HO119 := n1_; have HO123 := n2_; have HB := n3_; clear n0_ n1_ n2_ n3_; clear hb ho41; obtain ⟨Ao42, co42, eo42⟩ := Kd.R_slice HO123.out; subst eo42) | (go_at_call 11; (with_reducible refine (drift_Run.calls (-5) _ _ y121 true t124 _ ?side1 ?side2 A16.out).mono ?_); (case side1 => repeat (first | exact (Kd.R_reads' HO123.out).2.2 | (with_reducible refine Kd.C_alloc ?_ _) | (with_reducible refine Kd.C_drewN ?_ _) | (with_reducible refine Kd.C_drew ?_))); (case side2 => exact (Kd.R_reads' HO123.out).2.1); rintro e w43 ⟨rfl, hb⟩; have n0_ := Aside0.mk (Kd.R_below (by (with_reducible repeat (first | apply Kd.R_alloc | apply Kd.R_drewN | apply Kd.R_drew)); exact HO115.out) hb); have n1_ := Aside0.mk (Kd.R_below (by (with_reducible repeat (first | apply Kd.R_alloc | apply Kd.R_drewN | apply Kd.R_drew)); exact HO119.out) hb); have n2_ := Aside0.mk (Kd.R_below (by (with_reducible repeat (first | apply Kd.R_alloc | apply Kd.R_drewN | apply Kd.R_drew)); exact HO123.out) hb); have n3_ := Aside0.mk (below_step (by repeat (first | (with_reducible first | exact HB.out | apply below_alloc | apply pw_below_drewN | apply below_drew1) | exact HB.out)) hb); clear HO115; clear HO119; clear HO123; clear HB; have HO115 := n0_; have HO119 := n1_; have HO123 := n2_; have HB := n3_; clear n0_ n1_ n2_ n3_; (try clear hb); (try clear hb2); (try clear hk); (try clear hi)) | (go_at_call 15; (with_reducible refine (drift_Safe.calls 34 t125 _ A18.out).mono ?_); rintro e w' ⟨rfl, ⟨nd, rfl⟩⟩) | (go_at_call 15; (with_reducible refine (drift_Safe.calls 0 t126 _ A20.out).mono ?_); rintro e w' ⟨rfl, ⟨nd, rfl⟩⟩) | ((with_reducible refine gate_dst (N := 57) rfl ?_); (try (refine gate_guard (by rfl) ?_; dsimp only)); refine Kd.R_lit (Kd.int .i64) _ 3 ?hg (N := 57) ?hd (xs := ([15, 15, 15] : List Int)) (inner := [.int .i64 15, .int .i64 15, .int .i64 15]) (ok := fun _ => True) (okp := fun _ => True) ?hr ?hp (fun _ hk => hk) trivial (Below.refl _ _) (Nat.le_refl _) (by simp) ?_; (case hd => rfl); (case hg => rfl); (case hr => first | (go_simp; done) | (go_simp; rfl)); (case hp => exact (Reps.one (show Kd.M (Kd.int .i64) _ _ _ 15 [.int .i64 15] from rfl) (Reps.one (show Kd.M (Kd.int .i64) _ _ _ 15 [.int .i64 15] from rfl) (Reps.one (show Kd.M (Kd.int .i64) _ _ _ 15 [.int .i64 15] from rfl) (Reps.none _ _))))); intro v128 w44 ho45 hb hg_ hnew_; clear hg_ hnew_; (first | rw [← Ny127.out] at ho45 | (simp only [Int.reduceToNat] at ho45; rw [← Ny127.out] at ho45)); have n0_ := Aside0.mk (Kd.R_elder' (by (with_reducible repeat (first | apply Kd.R_alloc | apply Kd.R_drewN | apply Kd.R_drew)); exact HO115.out) (Kd.R_base ho45) hb); have n1_ := Aside0.mk (Kd.R_elder' (by (with_reducible repeat (first | apply Kd.R_alloc | apply Kd.R_drewN | apply Kd.R_drew)); exact HO119.out) (Kd.R_base ho45) hb); have n2_ := Aside0.mk (Kd.R_elder' (by (with_reducible repeat (first | apply Kd.R_alloc | apply Kd.R_drewN | apply Kd.R_drew)); exact HO123.out) (Kd.R_base ho45) hb); have n3_ := Aside0.mk (Kd.R_lower (Kd.R_new' (Kd.R_new' (Kd.R_new' ho45 (Kd.R_lt (by (with_reducible repeat (first | apply Kd.R_alloc | apply Kd.R_drewN | apply Kd.R_drew)); exact HO115.out))) (Kd.R_lt (by (with_reducible repeat (first | apply Kd.R_alloc | apply Kd.R_drewN | apply Kd.R_drew)); exact HO119.out))) (Kd.R_lt (by (with_reducible repeat (first | apply Kd.R_alloc | apply Kd.R_drewN | apply Kd.R_drew)); exact HO123.out))) (below_size (by repeat (first | (with_reducible first | exact HB.out | apply below_alloc | apply pw_below_drewN | apply below_drew1) | exact HB.out)))); have n4_ := Aside0.mk (below_step (by repeat (first | (with_reducible first | exact HB.out | apply below_alloc | apply pw_below_drewN | apply below_drew1) | exact HB.out)) hb); clear HO115; clear HO119; clear HO123; clear HB; have HO115 := n0_; have HO119 := n1_; have HO123 := n2_; have HO129 := n3_; have HB := n4_; clear n0_ n1_ n2_ n3_ n4_; clear hb ho45) | ((with_reducible refine gate_dst (N := 58) rfl ?_); (try (refine gate_guard (by rfl) ?_; dsimp only)); refine Kd.R_lit (Kd.int .i64) _ 3 ?hg (N := 58) ?hd (xs := ([17, 17, 17] : List Int)) (inner := [.int .i64 17, .int .i64 17, .int .i64 17]) (ok := fun _ => True) (okp := fun _ => True) ?hr ?hp (fun _ hk => hk) trivial (Below.refl _ _) (Nat.le_refl _) (by simp) ?_; (case hd => rfl); (case hg => rfl); (case hr => first | (go_simp; done) | (go_simp; rfl)); (case hp => exact (Reps.one (show Kd.M (Kd.int .i64) _ _ _ 17 [.int .i64 17] from rfl) (Reps.one (show Kd.M (Kd.int .i64) _ _ _ 17 [.int .i64 17] from rfl) (Reps.one (show Kd.M (Kd.int .i64) _ _ _ 17 [.int .i64 17] from rfl) (Reps.none _ _))))); intro v131 w46 ho47 hb hg_ hnew_; clear hg_ hnew_; (first | rw [← Ny130.out] at ho47 | (simp only [Int.reduceToNat] at ho47; rw [← Ny130.out] at ho47)); have n0_ := Aside0.mk (Kd.R_elder' (by (with_reducible repeat (first | apply Kd.R_alloc | apply Kd.R_drewN | apply Kd.R_drew)); exact HO115.out) (Kd.R_base ho47) hb); have n1_ := Aside0.mk (Kd.R_elder' (by (with_reducible repeat (first | apply Kd.R_alloc | apply Kd.R_drewN | apply Kd.R_drew)); exact HO119.out) (Kd.R_base ho47) hb); have n2_ := Aside0.mk (Kd.R_elder' (by (with_reducible repeat (first | apply Kd.R_alloc | apply Kd.R_drewN | apply Kd.R_drew)); exact HO123.out) (Kd.R_base ho47) hb); have n3_ := Aside0.mk (Kd.R_elder' (by (with_reducible repeat (first | apply Kd.R_alloc | apply Kd.R_drewN | apply Kd.R_drew)); exact HO129.out) (Kd.R_base ho47) hb); have n4_ := Aside0.mk (Kd.R_lower (Kd.R_new' (Kd.R_new' (Kd.R_new' (Kd.R_new' ho47 (Kd.R_lt (by (with_reducible repeat (first | apply Kd.R_alloc | apply Kd.R_drewN | apply Kd.R_drew)); exact HO115.out))) (Kd.R_lt (by (with_reducible repeat (first | apply Kd.R_alloc | apply Kd.R_drewN | apply Kd.R_drew)); exact HO119.out))) (Kd.R_lt (by (with_reducible repeat (first | apply Kd.R_alloc | apply Kd.R_drewN | apply Kd.R_drew)); exact HO123.out))) (Kd.R_lt (by (with_reducible repeat (first | apply Kd.R_alloc | apply Kd.R_drewN | apply Kd.R_drew)); exact HO129.out))) (below_size (by repeat (first | (with_reducible first | exact HB.out | apply below_alloc | apply pw_below_drewN | apply below_drew1) | exact HB.out)))); have n5_ := Aside0.mk (below_step (by repeat (first | (with_reducible first | exact HB.out | apply below_alloc | apply pw_below_drewN | apply below_drew1) | exact HB.out)) hb); clear HO115; clear HO119; clear HO123; clear HO129; clear HB; have HO115 := n0_; have HO119 := n1_; have HO123 := n2_; have HO129 := n3_; have HO132 := n4_; have HB := n5_; clear n0_ n1_ n2_ n3_ n4_ n5_; clear hb ho47; obtain ⟨Ao48, co48, eo48⟩ := Kd.R_slice HO129.out; subst eo48; obtain ⟨Ao49, co49, eo49⟩ := Kd.R_slice HO132.out; subst eo49) | (go_at_call 17; (with_reducible refine (drift_Fits.calls 34 _ _ y127 _ _ y130 true _ ?side1 ?side2 ?side3 ?side4 A24.out).mono ?_); (case side1 => repeat (first | exact (Kd.R_reads' HO129.out).2.2 | (with_reducible refine Kd.C_alloc ?_ _) | (with_reducible refine Kd.C_drewN ?_ _) | (with_reducible refine Kd.C_drew ?_))); (case side2 => exact (Kd.R_reads' HO129.out).2.1); (case side3 => repeat (first | exact (Kd.R_reads' HO132.out).2.2 | (with_reducible refine Kd.C_alloc ?_ _) | (with_reducible refine Kd.C_drewN ?_ _) | (with_reducible refine Kd.C_drew ?_))); (case side4 => exact (Kd.R_reads' HO132.out).2.1); rintro e w50 ⟨rfl, hb⟩; have n0_ := Aside0.mk (Kd.R_below (by (with_reducible repeat (first | apply Kd.R_alloc | apply Kd.R_drewN | apply Kd.R_drew)); exact HO115.out) hb); have n1_ := Aside0.mk (Kd.R_below (by (with_reducible repeat (first | apply Kd.R_alloc | apply Kd.R_drewN | apply Kd.R_drew)); exact HO119.out) hb); have n2_ := Aside0.mk (Kd.R_below (by (with_reducible repeat (first | apply Kd.R_alloc | apply Kd.R_drewN | apply Kd.R_drew)); exact HO123.out) hb); have n3_ := Aside0.mk (Kd.R_below (by (with_reducible repeat (first | apply Kd.R_alloc | apply Kd.R_drewN | apply Kd.R_drew)); exact HO129.out) hb); have n4_ := Aside0.mk (Kd.R_below (by (with_reducible repeat (first | apply Kd.R_alloc | apply Kd.R_drewN | apply Kd.R_drew)); exact HO132.out) hb); have n5_ := Aside0.mk (below_step (by repeat (first | (with_reducible first | exact HB.out | apply below_alloc | apply pw_below_drewN | apply below_drew1) | exact HB.out)) hb); clear HO115; clear HO119; clear HO123; clear HO129; clear HO132; clear HB; have HO115 := n0_; have HO119 := n1_; have HO123 := n2_; have HO129 := n3_; have HO132 := n4_; have HB := n5_; clear n0_ n1_ n2_ n3_ n4_ n5_; (try clear hb); (try clear hb2); (try clear hk); (try clear hi)) | (go_at_call 17; (refine (drift_Fits.calls 1 _ _ ([] : List Int) _ _ ([] : List Int) t134 _ ?side1 ?side2 ?side3 ?side4 A26.out).mono ?_); (case side1 => exact Kd.C_nil _ _); (case side2 => exact Nat.le_refl _); (case side3 => exact Kd.C_nil _ _); (case side4 => exact Nat.le_refl _); rintro e w51 ⟨rfl, hb⟩; have n0_ := Aside0.mk (Kd.R_below (by (with_reducible repeat (first | apply Kd.R_alloc | apply Kd.R_drewN | apply Kd.R_drew)); exact HO115.out) hb); have n1_ := Aside0.mk (Kd.R_below (by (with_reducible repeat (first | apply Kd.R_alloc | apply Kd.R_drewN | apply Kd.R_drew)); exact HO119.out) hb); have n2_ := Aside0.mk (Kd.R_below (by (with_reducible repeat (first | apply Kd.R_alloc | apply Kd.R_drewN | apply Kd.R_drew)); exact HO123.out) hb); have n3_ := Aside0.mk (Kd.R_below (by (with_reducible repeat (first | apply Kd.R_alloc | apply Kd.R_drewN | apply Kd.R_drew)); exact HO129.out) hb); have n4_ := Aside0.mk (Kd.R_below (by (with_reducible repeat (first | apply Kd.R_alloc | apply Kd.R_drewN | apply Kd.R_drew)); exact HO132.out) hb); have n5_ := Aside0.mk (below_step (by repeat (first | (with_reducible first | exact HB.out | apply below_alloc | apply pw_below_drewN | apply below_drew1) | exact HB.out)) hb); clear HO115; clear HO119; clear HO123; clear HO129; clear HO132; clear HB; have HO115 := n0_; have HO119 := n1_; have HO123 := n2_; have HO129 := n3_; have HO132 := n4_; have HB := n5_; clear n0_ n1_ n2_ n3_ n4_ n5_; (try clear hb); (try clear hb2); (try clear hk); (try clear hi)))
                            go_ret
                            exact ⟨by first | rfl | (simp [errW_none, errW_some] <;> rfl) | (simp [*, errW_none, errW_some] <;> rfl), by repeat (first | (with_reducible first | exact HB.out | apply below_alloc | apply pw_below_drewN | apply below_drew1) | exact HB.out)⟩
                          · replace c25 := Bool.eq_false_iff.mpr c25
                            subst c25
                            have H1 : (none) = some r := by rw [if_neg (show ¬ (false = true) by decide)] at H; exact H
                            clear H
                            have H := H1
                            clear H1
                            exact absurd H (by simp)
                        · rw [if_neg c23] at H
                          exact absurd H (by simp)
                      · rw [if_neg c22] at H
                        exact absurd H (by simp)
                    · rw [if_neg c21] at H
                      exact absurd H (by simp)
                  · rw [if_neg c19] at H
                    exact absurd H (by simp)
                · rw [if_neg c17] at H
                  exact absurd H (by simp)
              · rw [if_neg c15] at H
                exact absurd H (by simp)
            · rw [if_neg c13] at H
              exact absurd H (by simp)
          · rw [if_neg c11] at H
            exact absurd H (by simp)
        · rw [if_neg c9] at H
          exact absurd H (by simp)
      · rw [if_neg c7] at H
        exact absurd H (by simp)
    · rw [if_neg c5] at H
      exact absurd H (by simp)
  · rw [if_neg c3] at H
    exact absurd H (by simp)

/-! ### batonref11_Rate: function 10 -/
def batonref11_Rate.j0 : Nat → Int → Int → Int → Option (Int)
  | 0, _, _, _ => none
  | k + 1, x0, x5, x6 => if x0 < x5 then (some x5) else (if x0 > x6 then (some x6) else (some x0))
def batonref11_Rate.f (k : Nat) (a0 : Int) (a1 : Bool) : Option (Int) := if a1 = true then (batonref11_Rate.j0 k a0 15 17) else (batonref11_Rate.j0 k a0 0 64)
theorem batonref11_Rate.mono_l : ∀ k, (∀ y0 y1 y2, LeO (batonref11_Rate.j0 k y0 y1 y2) (batonref11_Rate.j0 (k + 1) y0 y1 y2))
  | 0 => fun _ _ _ r h => by simp [batonref11_Rate.j0] at h
  | k + 1 => by
    have ih0 := batonref11_Rate.mono_l k
    · intro y0 y1 y2
      unfold batonref11_Rate.j0
      repeat' first
      | (with_reducible exact ih0 _ _ _)
      | (with_reducible exact LeO.refl _)
      | (with_reducible exact LeO.none _)
      | (with_reducible refine LeO.ite ?_ ?_)
      | (with_reducible refine LeO.bind ?_ (fun _ => ?_))
      | exact ih0 _ _ _
      | exact LeO.none _
      | refine LeO.ite ?_ ?_
      | refine LeO.bind ?_ (fun _ => ?_)
theorem batonref11_Rate.mono : ∀ a0 a1 k, LeO (batonref11_Rate.f k a0 a1) (batonref11_Rate.f (k + 1) a0 a1) := by
  intro a0 a1 k
  have ih0 := batonref11_Rate.mono_l k
  unfold batonref11_Rate.f
  repeat' first
      | (with_reducible exact ih0 _ _ _)
      | (with_reducible exact LeO.refl _)
      | (with_reducible exact LeO.none _)
      | (with_reducible refine LeO.ite ?_ ?_)
      | (with_reducible refine LeO.bind ?_ (fun _ => ?_))
      | exact ih0 _ _ _
      | exact LeO.none _
      | refine LeO.ite ?_ ?_
      | refine LeO.bind ?_ (fun _ => ?_)
set_option maxHeartbeats 8000000 in
set_option maxRecDepth 100000 in
theorem batonref11_Rate.calls (k : Nat) (a0 : Int) (a1 : Bool) (r : Int) (w : World) (h : batonref11_Rate.f k a0 a1 = some r) :
    Calls Try.prog 10 #[.int .i64 a0, .bool a1] w fun e w' => e = .returned (.int .i64 r) ∧ Drawn0 w w' := by
  have H : (if a1 = true then (batonref11_Rate.j0 k a0 15 17) else (batonref11_Rate.j0 k a0 0 64)) = some r := h
  clear h
  have HC3 := Aside0.mk H
  clear H
  go_enter Try.func10, Try.ntmps10
  go_upto_if 7 with (fail)
  go_cut [5, 6] (fun v5 v6 wc => ∃ (kq : Nat) (x5_2 : Int) (x6_2 : Int), v5 = .int .i64 x5_2 ∧ v6 = .int .i64 x6_2 ∧ Aside0 (batonref11_Rate.j0 kq a0 x5_2 x6_2 = some r) ∧ Aside0 (kq ≤ k) ∧ Drawn0 w wc)
  case first =>
    have H := HC3.out
    clear HC3
    by_cases c4 : a1 = true
    · subst c4
      have H1 : (batonref11_Rate.j0 k a0 15 17) = some r := by rw [if_pos rfl] at H; exact H
      clear H
      have H := H1
      clear H1
      have H' := Aside0.mk H
      clear H
      go_wp2
      go_meet
      case rel => exact ⟨_, (15), (17), (by first | rfl | (simp; done) | (simp [*]; done)), (by first | rfl | (simp; done) | (simp [*]; done)), H', ⟨by first | omega | exact Nat.le_refl _⟩, by repeat (first | exact Drawn0.refl _ | apply Drawn0.step)⟩
    · replace c4 := Bool.eq_false_iff.mpr c4
      subst c4
      have H1 : (batonref11_Rate.j0 k a0 0 64) = some r := by rw [if_neg (show ¬ (false = true) by decide)] at H; exact H
      clear H
      have H := H1
      clear H1
      have H' := Aside0.mk H
      clear H
      go_wp2
      go_meet
      case rel => exact ⟨_, (0), (64), (by first | rfl | (simp; done) | (simp [*]; done)), (by first | rfl | (simp; done) | (simp [*]; done)), H', ⟨by first | omega | exact Nat.le_refl _⟩, by repeat (first | exact Drawn0.refl _ | apply Drawn0.step)⟩
  case rest =>
    clear HC3
    try clear c1
    try clear p2
    try clear c4
    obtain ⟨kq, x5_2, x6_2, rfl, rfl, HA, HJ2, ⟨mc2, rfl⟩⟩ := hcut
    cases kq with
    | zero => exact absurd HA.out (by simp [batonref11_Rate.j0])
    | succ kj2 =>
      have H := HA.out
      clear HA
      simp only [batonref11_Rate.j0] at H
      by_cases c5 : a0 < x5_2
      · rw [if_pos c5] at H
        have c5b0 : decide (a0 < x5_2) = true := decide_eq_true c5
        clear c5
        obtain rfl := Option.some.inj H
        go_wp2
        go_ret
        exact ⟨by first | rfl | (simp; done) | (simp [*]; done), by repeat (first | exact Drawn0.refl _ | apply Drawn0.step)⟩
      · rw [if_neg c5] at H
        have c5b0 : decide (a0 < x5_2) = false := decide_eq_false c5
        clear c5
        by_cases c6 : a0 > x6_2
        · rw [if_pos c6] at H
          have c6b0 : decide (x6_2 < a0) = true := decide_eq_true c6
          clear c6
          obtain rfl := Option.some.inj H
          go_wp2
          go_ret
          exact ⟨by first | rfl | (simp; done) | (simp [*]; done), by repeat (first | exact Drawn0.refl _ | apply Drawn0.step)⟩
        · rw [if_neg c6] at H
          have c6b0 : decide (x6_2 < a0) = false := decide_eq_false c6
          clear c6
          obtain rfl := Option.some.inj H
          go_wp2
          go_ret
          exact ⟨by first | rfl | (simp; done) | (simp [*]; done), by repeat (first | exact Drawn0.refl _ | apply Drawn0.step)⟩

/-! ### batonref11_Run: function 12 -/
mutual
def batonref11_Run.j0 : Nat → Int → List Int → Bool → Bool → Option (Int)
  | 0, _, _, _, _ => none
  | k + 1, x0, x1, x2, x13 => if x13 = true then (some x0) else (batonref11_Run.l0 k x0 x1 x2 0)
def batonref11_Run.l0 : Nat → Int → List Int → Bool → Int → Option (Int)
  | 0, _, _, _, _ => none
  | k + 1, x0, x1, x2, x7 => if x7 < (x1.length : Int) then (if 0 ≤ x7 then ((batonref11_Rate.f k (rd x1 x7) x2).bind fun t136 => (if (wrap64 (x0 + t136)) > 1099511627775 then (batonref11_Run.l0 k 1099511627775 x1 x2 (wrap64 (x7 + 1))) else (batonref11_Run.l0 k (wrap64 (x0 + t136)) x1 x2 (wrap64 (x7 + 1))))) else (none)) else (some x0)
end
def batonref11_Run.f (k : Nat) (a0 : Int) (l1 : List Int) (a2 : Bool) : Option (Int) := if a0 < 0 then (batonref11_Run.j0 k a0 l1 a2 true) else (batonref11_Run.j0 k a0 l1 a2 (decide (a0 > 1099511627775)))
theorem batonref11_Run.mono_l : ∀ k, (∀ y0 y1 y2 y3, LeO (batonref11_Run.j0 k y0 y1 y2 y3) (batonref11_Run.j0 (k + 1) y0 y1 y2 y3)) ∧ (∀ y0 y1 y2 y3, LeO (batonref11_Run.l0 k y0 y1 y2 y3) (batonref11_Run.l0 (k + 1) y0 y1 y2 y3))
  | 0 => ⟨fun _ _ _ _ r h => by simp [batonref11_Run.j0] at h, fun _ _ _ _ r h => by simp [batonref11_Run.l0] at h⟩
  | k + 1 => by
    obtain ⟨ih0, ih1⟩ := batonref11_Run.mono_l k
    refine ⟨?_, ?_⟩
    · intro y0 y1 y2 y3
      unfold batonref11_Run.j0
      repeat' first
      | (with_reducible exact ih0 _ _ _ _)
      | (with_reducible exact ih1 _ _ _ _)
      | (with_reducible exact batonref11_Rate.mono _ _ _)
      | (with_reducible exact LeO.refl _)
      | (with_reducible exact LeO.none _)
      | (with_reducible refine LeO.ite ?_ ?_)
      | (with_reducible refine LeO.bind ?_ (fun _ => ?_))
      | exact ih0 _ _ _ _
      | exact ih1 _ _ _ _
      | exact batonref11_Rate.mono _ _ _
      | exact LeO.none _
      | refine LeO.ite ?_ ?_
      | refine LeO.bind ?_ (fun _ => ?_)
    · intro y0 y1 y2 y3
      unfold batonref11_Run.l0
      repeat' first
      | (with_reducible exact ih0 _ _ _ _)
      | (with_reducible exact ih1 _ _ _ _)
      | (with_reducible exact batonref11_Rate.mono _ _ _)
      | (with_reducible exact LeO.refl _)
      | (with_reducible exact LeO.none _)
      | (with_reducible refine LeO.ite ?_ ?_)
      | (with_reducible refine LeO.bind ?_ (fun _ => ?_))
      | exact ih0 _ _ _ _
      | exact ih1 _ _ _ _
      | exact batonref11_Rate.mono _ _ _
      | exact LeO.none _
      | refine LeO.ite ?_ ?_
      | refine LeO.bind ?_ (fun _ => ?_)
theorem batonref11_Run.mono : ∀ a0 a1 a2 k, LeO (batonref11_Run.f k a0 a1 a2) (batonref11_Run.f (k + 1) a0 a1 a2) := by
  intro a0 a1 a2 k
  obtain ⟨ih0, ih1⟩ := batonref11_Run.mono_l k
  unfold batonref11_Run.f
  repeat' first
      | (with_reducible exact ih0 _ _ _ _)
      | (with_reducible exact ih1 _ _ _ _)
      | (with_reducible exact batonref11_Rate.mono _ _ _)
      | (with_reducible exact LeO.refl _)
      | (with_reducible exact LeO.none _)
      | (with_reducible refine LeO.ite ?_ ?_)
      | (with_reducible refine LeO.bind ?_ (fun _ => ?_))
      | exact ih0 _ _ _ _
      | exact ih1 _ _ _ _
      | exact batonref11_Rate.mono _ _ _
      | exact LeO.none _
      | refine LeO.ite ?_ ?_
      | refine LeO.bind ?_ (fun _ => ?_)
set_option maxHeartbeats 8000000 in
set_option maxRecDepth 100000 in
theorem batonref11_Run.calls (k : Nat) (a0 : Int) (A1 : Option Addr) (c1 : Nat) (l1 : List Int) (a2 : Bool) (r : Int) (w : World) (hr1 : Kd.C (Kd.int .i64) w A1 l1.length l1) (hc1 : l1.length ≤ c1) (h : batonref11_Run.f k a0 l1 a2 = some r) :
    Calls Try.prog 12 #[.int .i64 a0, .slice A1 l1.length c1, .bool a2] w fun e w' => e = .returned (.int .i64 r) ∧ Drawn0 w w' := by
  have HR1 := Aside0.mk hr1
  have HC1 := Aside0.mk hc1
  clear hr1 hc1
  have H : (if a0 < 0 then (batonref11_Run.j0 k a0 l1 a2 true) else (batonref11_Run.j0 k a0 l1 a2 (decide (a0 > 1099511627775)))) = some r := h
  clear h
  have HC4 := Aside0.mk H
  clear H
  go_enter Try.func12, Try.ntmps12
  go_upto_region 1 with (fail)
  go_cut [13] (fun v13 wc => ∃ (kq : Nat) (x13_3 : Bool), v13 = .bool x13_3 ∧ Aside0 (batonref11_Run.j0 kq a0 l1 a2 x13_3 = some r) ∧ Aside0 (kq ≤ k) ∧ Drawn0 w wc)
  case first =>
    have H := HC4.out
    clear HC4
    by_cases c5 : a0 < 0
    · rw [if_pos c5] at H
      have c5b0 : decide (a0 < 0) = true := decide_eq_true c5
      clear c5
      (first | rw [c5b0] | (simp only [i64_w, i32_w]; rw [c5b0]) | skip)
      have H' := Aside0.mk H
      clear H
      go_wp2
      go_meet
      case rel => exact ⟨_, (true), (by first | rfl | (simp; done) | (simp [*]; done)), H', ⟨by first | omega | exact Nat.le_refl _⟩, by repeat (first | exact Drawn0.refl _ | apply Drawn0.step)⟩
    · rw [if_neg c5] at H
      have c5b0 : decide (a0 < 0) = false := decide_eq_false c5
      clear c5
      (first | rw [c5b0] | (simp only [i64_w, i32_w]; rw [c5b0]) | skip)
      have H' := Aside0.mk H
      clear H
      go_wp2
      go_meet
      case rel => exact ⟨_, (decide (a0 > 1099511627775)), (by first | rfl | (simp; done) | (simp [*]; done)), H', ⟨by first | omega | exact Nat.le_refl _⟩, by repeat (first | exact Drawn0.refl _ | apply Drawn0.step)⟩
  case rest =>
    clear HC4
    try clear c1
    try clear p2
    try clear c5
    try clear c5b0
    obtain ⟨kq, x13_3, rfl, HA, HJ3, ⟨mc3, rfl⟩⟩ := hcut
    cases kq with
    | zero => exact absurd HA.out (by simp [batonref11_Run.j0])
    | succ kj3 =>
      have H := HA.out
      clear HA
      simp only [batonref11_Run.j0] at H
      by_cases c6 : x13_3 = true
      · subst c6
        have H1 : (some a0) = some r := by rw [if_pos rfl] at H; exact H
        clear H
        have H := H1
        clear H1
        obtain rfl := Option.some.inj H
        go_wp2
        go_ret
        exact ⟨by first | rfl | (simp; done) | (simp [*]; done), by repeat (first | exact Drawn0.refl _ | apply Drawn0.step)⟩
      · replace c6 := Bool.eq_false_iff.mpr c6
        subst c6
        have H1 : (batonref11_Run.l0 kj3 a0 l1 a2 0) = some r := by rw [if_neg (show ¬ (false = true) by decide)] at H; exact H
        clear H
        have H := H1
        clear H1
        have H' := Aside0.mk H
        clear H
        go_wp2
        go_loopg [0, 7] kj3 (fun kq v0 v7 w' => ∃ (x0_2 : Int) (x7_2 : Int), v0 = .int .i64 x0_2 ∧ v7 = .int .i64 x7_2 ∧ Aside0 (batonref11_Run.l0 kq x0_2 l1 a2 x7_2 = some r) ∧ Aside0 (kq ≤ kj3) ∧ Drawn0 w w')
        case atStart => exact ⟨(a0), (0), (by first | rfl | (simp; done) | (simp [*]; done)), (by first | rfl | (simp; done) | (simp [*]; done)), H', ⟨Nat.le_refl _⟩, by repeat (first | exact Drawn0.refl _ | apply Drawn0.step)⟩
        case round =>
          clear H'
          try clear c1
          try clear p2
          try clear c3
          try clear c5
          try clear c5b0
          try clear c6
          try clear p2
          obtain ⟨x0_2, x7_2, rfl, rfl, HA, HK2, ⟨m2, rfl⟩⟩ := hrel
          cases gk with
          | zero => exact absurd HA.out (by simp [batonref11_Run.l0])
          | succ k2 =>
            have H := HA.out
            clear HA
            simp only [batonref11_Run.l0] at H
            by_cases c7 : x7_2 < (l1.length : Int)
            · rw [if_pos c7] at H
              have c7b0 : decide (x7_2 < (l1.length : Int)) = true := decide_eq_true c7
              clear c7
              by_cases c8 : 0 ≤ x7_2
              · rw [if_pos c8] at H
                have c8b0 : decide (0 ≤ x7_2) = true := decide_eq_true c8
                clear c8
                replace H := Option.bind_eq_some_iff.mp H
                obtain ⟨t136, A90, H⟩ := H
                replace H : (if (wrap64 (x0_2 + t136)) > 1099511627775 then (batonref11_Run.l0 k2 1099511627775 l1 a2 (wrap64 (x7_2 + 1))) else (batonref11_Run.l0 k2 (wrap64 (x0_2 + t136)) l1 a2 (wrap64 (x7_2 + 1)))) = some r := H
                have A9 := Aside0.mk A90
                clear A90
                by_cases c10 : (wrap64 (x0_2 + t136)) > 1099511627775
                · rw [if_pos c10] at H
                  have c10b0 : decide (1099511627775 < (wrap64 (x0_2 + t136))) = true := decide_eq_true c10
                  clear c10
                  have H' := Aside0.mk H
                  clear H
                  have p135 : 0 ≤ (x7_2 : Int) := of_decide_eq_true (by first | (with_reducible assumption) | assumption)
                  have q135 : x7_2 < (l1.length : Int) := of_decide_eq_true (by first | (with_reducible assumption) | assumption)
                  obtain ⟨ad135, e135, hx135_0⟩ := Kd.at_int HR1.out x7_2 p135 q135
                  cases e135
                  replace p135 := eq_true p135
                  replace q135 := eq_true q135
                  go_wp2_with (first | ((with_reducible refine gate_callee (f := 10) rfl ?_); refine goesL_ (some 27) rfl rfl Try.func10 (by kernel_rfl) rfl #[.int .i64 (rd l1 x7_2), .bool a2] rfl (by (try simp only [List.map_toArray, List.map_cons, List.map_nil]); first | done | rfl | (simp only [List.length_drop, List.length_take]; rfl)) ?_; (with_reducible refine (batonref11_Rate.calls k2 (rd l1 x7_2) a2 t136 _ A9.out).mono ?_); rintro e w' ⟨rfl, ⟨nd, rfl⟩⟩; refine ⟨_, rfl, ?_⟩))
                  go_roundg k2
                  case measure => have := HJ3.out; have := HK2.out; omega
                  case rel => exact ⟨(1099511627775), (wrap64 (x7_2 + 1)), (by first | rfl | (simp; done) | (simp [*]; done)), (by first | rfl | (simp; done) | (simp [*]; done)), H', ⟨by have := HJ3.out; have := HK2.out; omega⟩, by repeat (first | exact Drawn0.refl _ | apply Drawn0.step)⟩
                · rw [if_neg c10] at H
                  have c10b0 : decide (1099511627775 < (wrap64 (x0_2 + t136))) = false := decide_eq_false c10
                  clear c10
                  have H' := Aside0.mk H
                  clear H
                  have p135 : 0 ≤ (x7_2 : Int) := of_decide_eq_true (by first | (with_reducible assumption) | assumption)
                  have q135 : x7_2 < (l1.length : Int) := of_decide_eq_true (by first | (with_reducible assumption) | assumption)
                  obtain ⟨ad135, e135, hx135_0⟩ := Kd.at_int HR1.out x7_2 p135 q135
                  cases e135
                  replace p135 := eq_true p135
                  replace q135 := eq_true q135
                  go_wp2_with (first | ((with_reducible refine gate_callee (f := 10) rfl ?_); refine goesL_ (some 27) rfl rfl Try.func10 (by kernel_rfl) rfl #[.int .i64 (rd l1 x7_2), .bool a2] rfl (by (try simp only [List.map_toArray, List.map_cons, List.map_nil]); first | done | rfl | (simp only [List.length_drop, List.length_take]; rfl)) ?_; (with_reducible refine (batonref11_Rate.calls k2 (rd l1 x7_2) a2 t136 _ A9.out).mono ?_); rintro e w' ⟨rfl, ⟨nd, rfl⟩⟩; refine ⟨_, rfl, ?_⟩))
                  go_roundg k2
                  case measure => have := HJ3.out; have := HK2.out; omega
                  case rel => exact ⟨(wrap64 (x0_2 + t136)), (wrap64 (x7_2 + 1)), (by first | rfl | (simp; done) | (simp [*]; done)), (by first | rfl | (simp; done) | (simp [*]; done)), H', ⟨by have := HJ3.out; have := HK2.out; omega⟩, by repeat (first | exact Drawn0.refl _ | apply Drawn0.step)⟩
              · rw [if_neg c8] at H
                exact absurd H (by simp)
            · rw [if_neg c7] at H
              have c7b0 : decide (x7_2 < (l1.length : Int)) = false := decide_eq_false c7
              clear c7
              obtain rfl := Option.some.inj H
              go_wp2
              go_ret
              exact ⟨by first | rfl | (simp; done) | (simp [*]; done), by repeat (first | exact Drawn0.refl _ | apply Drawn0.step)⟩

end Go.Proofs.Ytfcbnheefipldaa.PM
