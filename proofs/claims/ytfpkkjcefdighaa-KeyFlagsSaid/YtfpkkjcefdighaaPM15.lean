-- made by a program of this session (wip/tools/myprint.py over the kit's print) out of the translation; Lean checks it
import Derived.Test.YtfpkkjcefdighaaPM0
import Derived.Test.YtfpkkjcefdighaaPM3
import Derived.Test.YtfpkkjcefdighaaPM5
import Derived.Test.YtfpkkjcefdighaaPM6
import Derived.Test.YtfpkkjcefdighaaPM7
import Derived.Test.YtfpkkjcefdighaaPM9
import Derived.Test.YtfpkkjcefdighaaPM13
import Derived.Test.YtfpkkjcefdighaaPM14
namespace Go.Proofs.Ytfpkkjcefdighaa.PM
open Go.RowKit Go.Proofs.YtfpkkjcefdighaaW.PrintWords Go.Proofs.YtfpkkjcefdighaaW.PrintLast Go.Proofs.YtfpkkjcefdighaaW.PrintMore
attribute [local go_sem] max2_int min2_int max_two min_two max_three min_three max_four min_four   -- for this text's walks alone
set_option linter.unusedVariables false
set_option linter.unusedSimpArgs false

/-! ### batonref02_Ticket: function 13 -/
mutual
def batonref02_Ticket.j0 : Nat → Int → ByteArray → Bool → Option (ByteArray × Bool)
  | 0, _, _, _ => none
  | k + 1, x2, x8, x28 => if x28 = true then (some ((⟨#[]⟩ : ByteArray), false)) else (batonref02_Ticket.l0 k x2 x8 (⟨#[48, 49, 50, 51, 52, 53, 54, 55, 56, 57, 97, 98, 99, 100, 101, 102]⟩ : ByteArray) (⟨#[]⟩ : ByteArray) 0)
def batonref02_Ticket.l0 : Nat → Int → ByteArray → ByteArray → ByteArray → Int → Option (ByteArray × Bool)
  | 0, _, _, _, _, _ => none
  | k + 1, x2, x8, x10, x11, x12 => if x12 < 10 then (if 0 ≤ (Int.tmod x2 16) then (if (Int.tmod x2 16) ≤ (wrap64 ((Int.tmod x2 16) + 1)) then (if (wrap64 ((Int.tmod x2 16) + 1)) ≤ (x10.size : Int) then (if (x10.extract ((Int.tmod x2 16) : Int).toNat ((wrap64 ((Int.tmod x2 16) + 1)) : Int).toNat).size + x11.size ≤ 9223372036854775807 then (batonref02_Ticket.l0 k (wrap64 (Int.tdiv x2 16)) x8 x10 ((x10.extract ((Int.tmod x2 16) : Int).toNat ((wrap64 ((Int.tmod x2 16) + 1)) : Int).toNat) ++ x11) (wrap64 (x12 + 1))) else (none)) else (none)) else (none)) else (none)) else (if x8.size + x11.size ≤ 9223372036854775807 then (some (x8 ++ x11, true)) else (none))
end
def batonref02_Ticket.f (k : Nat) (a0 : Int) (a1 : ByteArray) (a2 : Int) : Option (ByteArray × Bool) := (batonref02_Prefix.f k a0 a1).bind fun bt138 => (if bt138.2 = true then (if a2 < 0 then (batonref02_Ticket.j0 k a2 bt138.1 true) else (batonref02_Ticket.j0 k a2 bt138.1 (decide (a2 > 1099511627775)))) else (batonref02_Ticket.j0 k a2 bt138.1 true))
theorem batonref02_Ticket.mono_l : ∀ k, (∀ y0 y1 y2, LeO (batonref02_Ticket.j0 k y0 y1 y2) (batonref02_Ticket.j0 (k + 1) y0 y1 y2)) ∧ (∀ y0 y1 y2 y3 y4, LeO (batonref02_Ticket.l0 k y0 y1 y2 y3 y4) (batonref02_Ticket.l0 (k + 1) y0 y1 y2 y3 y4))
  | 0 => ⟨fun _ _ _ r h => by simp [batonref02_Ticket.j0] at h, fun _ _ _ _ _ r h => by simp [batonref02_Ticket.l0] at h⟩
  | k + 1 => by
    obtain ⟨ih0, ih1⟩ := batonref02_Ticket.mono_l k
    refine ⟨?_, ?_⟩
    · intro y0 y1 y2
      unfold batonref02_Ticket.j0
      repeat' first
      | (with_reducible exact ih0 _ _ _)
      | (with_reducible exact ih1 _ _ _ _ _)
      | (with_reducible exact batonref02_Prefix.mono _ _ _)
      | (with_reducible exact LeO.refl _)
      | (with_reducible exact LeO.none _)
      | (with_reducible refine LeO.ite ?_ ?_)
      | (with_reducible refine LeO.bind ?_ (fun _ => ?_))
      | exact ih0 _ _ _
      | exact ih1 _ _ _ _ _
      | exact batonref02_Prefix.mono _ _ _
      | exact LeO.none _
      | refine LeO.ite ?_ ?_
      | refine LeO.bind ?_ (fun _ => ?_)
    · intro y0 y1 y2 y3 y4
      unfold batonref02_Ticket.l0
      repeat' first
      | (with_reducible exact ih0 _ _ _)
      | (with_reducible exact ih1 _ _ _ _ _)
      | (with_reducible exact batonref02_Prefix.mono _ _ _)
      | (with_reducible exact LeO.refl _)
      | (with_reducible exact LeO.none _)
      | (with_reducible refine LeO.ite ?_ ?_)
      | (with_reducible refine LeO.bind ?_ (fun _ => ?_))
      | exact ih0 _ _ _
      | exact ih1 _ _ _ _ _
      | exact batonref02_Prefix.mono _ _ _
      | exact LeO.none _
      | refine LeO.ite ?_ ?_
      | refine LeO.bind ?_ (fun _ => ?_)
theorem batonref02_Ticket.mono : ∀ a0 a1 a2 k, LeO (batonref02_Ticket.f k a0 a1 a2) (batonref02_Ticket.f (k + 1) a0 a1 a2) := by
  intro a0 a1 a2 k
  obtain ⟨ih0, ih1⟩ := batonref02_Ticket.mono_l k
  unfold batonref02_Ticket.f
  repeat' first
      | (with_reducible exact ih0 _ _ _)
      | (with_reducible exact ih1 _ _ _ _ _)
      | (with_reducible exact batonref02_Prefix.mono _ _ _)
      | (with_reducible exact LeO.refl _)
      | (with_reducible exact LeO.none _)
      | (with_reducible refine LeO.ite ?_ ?_)
      | (with_reducible refine LeO.bind ?_ (fun _ => ?_))
      | exact ih0 _ _ _
      | exact ih1 _ _ _ _ _
      | exact batonref02_Prefix.mono _ _ _
      | exact LeO.none _
      | refine LeO.ite ?_ ?_
      | refine LeO.bind ?_ (fun _ => ?_)
set_option maxHeartbeats 8000000 in
set_option maxRecDepth 100000 in
theorem batonref02_Ticket.calls (k : Nat) (a0 : Int) (a1 : ByteArray) (a2 : Int) (r1 : ByteArray) (r2 : Bool) (w : World) (h : batonref02_Ticket.f k a0 a1 a2 = some (r1, r2)) :
    Calls Try.prog 13 #[.int .i64 a0, .string a1, .int .i64 a2] w fun e w' => e = .returned (.tuple #[.string r1, .bool r2]) ∧ Drawn0 w w' := by
  have H : ((batonref02_Prefix.f k a0 a1).bind fun bt138 => (if bt138.2 = true then (if a2 < 0 then (batonref02_Ticket.j0 k a2 bt138.1 true) else (batonref02_Ticket.j0 k a2 bt138.1 (decide (a2 > 1099511627775)))) else (batonref02_Ticket.j0 k a2 bt138.1 true))) = some (r1, r2) := h
  clear h
  replace H := Option.bind_eq_some_iff.mp H
  obtain ⟨⟨t138, t139⟩, A40, H⟩ := H
  replace H : (if t139 = true then (if a2 < 0 then (batonref02_Ticket.j0 k a2 t138 true) else (batonref02_Ticket.j0 k a2 t138 (decide (a2 > 1099511627775)))) else (batonref02_Ticket.j0 k a2 t138 true)) = some (r1, r2) := H
  have A4 := Aside0.mk A40
  clear A40
  have HC5 := Aside0.mk H
  clear H
  go_enter Try.func13, Try.ntmps13
  go_upto_region 2 with (first | ((with_reducible refine gate_callee (f := 11) rfl ?_); refine goesL_ (some 16) rfl rfl Try.func11 (by kernel_rfl) rfl #[.int .i64 a0, .string a1] rfl (by (try simp only [List.map_toArray, List.map_cons, List.map_nil]); first | done | rfl | (simp only [List.length_drop, List.length_take]; rfl)) ?_; (with_reducible refine (batonref02_Prefix.calls k a0 a1 t138 t139 _ A4.out).mono ?_); rintro e w' ⟨rfl, ⟨nd, rfl⟩⟩; refine ⟨_, rfl, ?_⟩))
  (try simp only [Act.put, List.setIfInBounds_toArray, List.set_cons_zero, List.set_cons_succ])
  go_cut [28] (fun v28 wc => ∃ (kq : Nat) (x28_4 : Bool), v28 = .bool x28_4 ∧ Aside0 (batonref02_Ticket.j0 kq a2 t138 x28_4 = some (r1, r2)) ∧ Aside0 (kq ≤ k) ∧ Drawn0 w wc)
  case first =>
    have H := HC5.out
    clear HC5
    by_cases c6 : t139 = true
    · subst c6
      have H1 : (if a2 < 0 then (batonref02_Ticket.j0 k a2 t138 true) else (batonref02_Ticket.j0 k a2 t138 (decide (a2 > 1099511627775)))) = some (r1, r2) := by rw [if_pos rfl] at H; exact H
      clear H
      have H := H1
      clear H1
      by_cases c7 : a2 < 0
      · rw [if_pos c7] at H
        have c7b0 : decide (a2 < 0) = true := decide_eq_true c7
        clear c7
        (first | rw [c7b0] | (simp only [i64_w, i32_w]; rw [c7b0]) | skip)
        have H' := Aside0.mk H
        clear H
        go_wp2
        go_meet
        case rel => exact ⟨_, (true), (by first | rfl | (simp; done) | (simp [*]; done)), H', ⟨by first | omega | exact Nat.le_refl _⟩, by repeat (first | exact Drawn0.refl _ | apply Drawn0.step)⟩
      · rw [if_neg c7] at H
        have c7b0 : decide (a2 < 0) = false := decide_eq_false c7
        clear c7
        (first | rw [c7b0] | (simp only [i64_w, i32_w]; rw [c7b0]) | skip)
        have H' := Aside0.mk H
        clear H
        go_wp2
        go_meet
        case rel => exact ⟨_, (decide (a2 > 1099511627775)), (by first | rfl | (simp; done) | (simp [*]; done)), H', ⟨by first | omega | exact Nat.le_refl _⟩, by repeat (first | exact Drawn0.refl _ | apply Drawn0.step)⟩
    · replace c6 := Bool.eq_false_iff.mpr c6
      subst c6
      have H1 : (batonref02_Ticket.j0 k a2 t138 true) = some (r1, r2) := by rw [if_neg (show ¬ (false = true) by decide)] at H; exact H
      clear H
      have H := H1
      clear H1
      have H' := Aside0.mk H
      clear H
      go_wp2
      go_meet
      case rel => exact ⟨_, (true), (by first | rfl | (simp; done) | (simp [*]; done)), H', ⟨by first | omega | exact Nat.le_refl _⟩, by repeat (first | exact Drawn0.refl _ | apply Drawn0.step)⟩
  case rest =>
    clear HC5
    try clear c1
    try clear p2
    try clear c6
    try clear c7
    try clear c7b0
    obtain ⟨kq, x28_4, rfl, HA, HJ4, ⟨mc4, rfl⟩⟩ := hcut
    cases kq with
    | zero => exact absurd HA.out (by simp [batonref02_Ticket.j0])
    | succ kj4 =>
      have H := HA.out
      clear HA
      simp only [batonref02_Ticket.j0] at H
      by_cases c8 : x28_4 = true
      · subst c8
        have H1 : (some ((⟨#[]⟩ : ByteArray), false)) = some (r1, r2) := by rw [if_pos rfl] at H; exact H
        clear H
        have H := H1
        clear H1
        simp only [Option.some.injEq, Prod.mk.injEq] at H
        obtain ⟨rfl, rfl⟩ := H
        go_wp2
        go_ret2
        exact ⟨by first | rfl | (simp; done) | (simp [*]; done), by repeat (first | exact Drawn0.refl _ | apply Drawn0.step)⟩
      · replace c8 := Bool.eq_false_iff.mpr c8
        subst c8
        have H1 : (batonref02_Ticket.l0 kj4 a2 t138 (⟨#[48, 49, 50, 51, 52, 53, 54, 55, 56, 57, 97, 98, 99, 100, 101, 102]⟩ : ByteArray) (⟨#[]⟩ : ByteArray) 0) = some (r1, r2) := by rw [if_neg (show ¬ (false = true) by decide)] at H; exact H
        clear H
        have H := H1
        clear H1
        have H' := Aside0.mk H
        clear H
        go_wp2
        go_loopg [2, 11, 12] kj4 (fun kq v2 v11 v12 w' => ∃ (x2_2 : Int) (x11_2 : ByteArray) (x12_2 : Int), v2 = .int .i64 x2_2 ∧ v11 = .string x11_2 ∧ v12 = .int .i64 x12_2 ∧ Aside0 (batonref02_Ticket.l0 kq x2_2 t138 (⟨#[48, 49, 50, 51, 52, 53, 54, 55, 56, 57, 97, 98, 99, 100, 101, 102]⟩ : ByteArray) x11_2 x12_2 = some (r1, r2)) ∧ Aside0 (kq ≤ kj4) ∧ Drawn0 w w')
        case atStart => exact ⟨(a2), ((⟨#[]⟩ : ByteArray)), (0), (by first | rfl | (simp; done) | (simp [*]; done)), (by first | rfl | (simp; done) | (simp [*]; done)), (by first | rfl | (simp; done) | (simp [*]; done)), H', ⟨Nat.le_refl _⟩, by repeat (first | exact Drawn0.refl _ | apply Drawn0.step)⟩
        case round =>
          clear H'
          try clear c1
          try clear p2
          try clear c4
          try clear c6
          try clear c7
          try clear c7b0
          try clear c8
          try clear p2
          obtain ⟨x2_2, x11_2, x12_2, rfl, rfl, rfl, HA, HK2, ⟨m2, rfl⟩⟩ := hrel
          cases gk with
          | zero => exact absurd HA.out (by simp [batonref02_Ticket.l0])
          | succ k2 =>
            have H := HA.out
            clear HA
            simp only [batonref02_Ticket.l0] at H
            by_cases c9 : x12_2 < 10
            · rw [if_pos c9] at H
              have c9b0 : decide (x12_2 < 10) = true := decide_eq_true c9
              clear c9
              obtain ⟨ji10, hji10⟩ : ∃ j_ : Int, (Int.tmod x2_2 16) = j_ := ⟨_, rfl⟩
              replace H : (if 0 ≤ (ji10) then (if (ji10) ≤ (wrap64 ((ji10) + 1)) then (if (wrap64 ((ji10) + 1)) ≤ ((⟨#[48, 49, 50, 51, 52, 53, 54, 55, 56, 57, 97, 98, 99, 100, 101, 102]⟩ : ByteArray).size : Int) then (if ((⟨#[48, 49, 50, 51, 52, 53, 54, 55, 56, 57, 97, 98, 99, 100, 101, 102]⟩ : ByteArray).extract ((ji10) : Int).toNat ((wrap64 ((ji10) + 1)) : Int).toNat).size + x11_2.size ≤ 9223372036854775807 then (batonref02_Ticket.l0 k2 (wrap64 (Int.tdiv x2_2 16)) t138 (⟨#[48, 49, 50, 51, 52, 53, 54, 55, 56, 57, 97, 98, 99, 100, 101, 102]⟩ : ByteArray) (((⟨#[48, 49, 50, 51, 52, 53, 54, 55, 56, 57, 97, 98, 99, 100, 101, 102]⟩ : ByteArray).extract ((ji10) : Int).toNat ((wrap64 ((ji10) + 1)) : Int).toNat) ++ x11_2) (wrap64 (x12_2 + 1))) else (none)) else (none)) else (none)) else (none)) = some (r1, r2) := by first | (rw [hji10] at H; exact H) | (simp only [hji10] at H ⊢; exact H)
              by_cases c11 : 0 ≤ (ji10)
              · rw [if_pos c11] at H
                have c11b0 := eq_true c11
                have c11b1 : decide (0 ≤ (ji10)) = true := decide_eq_true c11
                clear c11
                by_cases c12 : (ji10) ≤ (wrap64 ((ji10) + 1))
                · rw [if_pos c12] at H
                  have c12b0 := eq_true c12
                  have c12b1 : decide ((ji10) ≤ (wrap64 ((ji10) + 1))) = true := decide_eq_true c12
                  by_cases c13 : (wrap64 ((ji10) + 1)) ≤ ((⟨#[48, 49, 50, 51, 52, 53, 54, 55, 56, 57, 97, 98, 99, 100, 101, 102]⟩ : ByteArray).size : Int)
                  · rw [if_pos c13] at H
                    have c13b0 := eq_true c13
                    have c13b1 : decide ((wrap64 ((ji10) + 1)) ≤ ((⟨#[48, 49, 50, 51, 52, 53, 54, 55, 56, 57, 97, 98, 99, 100, 101, 102]⟩ : ByteArray).size : Int)) = true := decide_eq_true c13
                    try (have c13b7 : decide ((wrap64 ((ji10) + 1)) ≤ (16 : Int)) = true := c13b1)
                    try (have c13b8 : ((wrap64 ((ji10) + 1)) ≤ (16 : Int)) = True := c13b0)
                    by_cases c14 : ((⟨#[48, 49, 50, 51, 52, 53, 54, 55, 56, 57, 97, 98, 99, 100, 101, 102]⟩ : ByteArray).extract ((ji10) : Int).toNat ((wrap64 ((ji10) + 1)) : Int).toNat).size + x11_2.size ≤ 9223372036854775807
                    · rw [if_pos c14] at H
                      have c14b0 := eq_true c14
                      have c14b1 : decide (((⟨#[48, 49, 50, 51, 52, 53, 54, 55, 56, 57, 97, 98, 99, 100, 101, 102]⟩ : ByteArray).extract ((ji10) : Int).toNat ((wrap64 ((ji10) + 1)) : Int).toNat).size + x11_2.size ≤ 9223372036854775807) = true := decide_eq_true c14
                      try have c14b2 : (9223372036854775807 < ((⟨#[48, 49, 50, 51, 52, 53, 54, 55, 56, 57, 97, 98, 99, 100, 101, 102]⟩ : ByteArray).extract ((ji10) : Int).toNat ((wrap64 ((ji10) + 1)) : Int).toNat).size + x11_2.size) = False := eq_false (Nat.not_lt.2 c14)
                      try (have c14b5 := c14b2; simp only [ByteArray.size_append, ByteArray.size_extract, My.size_mk, List.size_toArray, List.length_cons, List.length_nil, Nat.zero_add, Nat.reduceAdd] at c14b5)
                      try (have c14b6 : (9223372036854775807 < ((⟨#[48, 49, 50, 51, 52, 53, 54, 55, 56, 57, 97, 98, 99, 100, 101, 102]⟩ : ByteArray).extract ((ji10) : Int).toNat ((wrap64 ((ji10) + 1)) : Int).toNat).size) = False := eq_false (by have := c14; omega); simp only [ByteArray.size_append, ByteArray.size_extract, My.size_mk, List.size_toArray, List.length_cons, List.length_nil, Nat.zero_add, Nat.reduceAdd] at c14b6)
                      have H' := Aside0.mk H
                      clear H
                      go_wp2
                      go_roundg k2
                      case measure => have := HJ4.out; have := HK2.out; omega
                      case rel => exact ⟨(wrap64 (Int.tdiv x2_2 16)), (((⟨#[48, 49, 50, 51, 52, 53, 54, 55, 56, 57, 97, 98, 99, 100, 101, 102]⟩ : ByteArray).extract ((ji10) : Int).toNat ((wrap64 ((ji10) + 1)) : Int).toNat) ++ x11_2), (wrap64 (x12_2 + 1)), (by first | rfl | (simp; done) | (simp [*]; done)), (by first | rfl | (simp; done) | (simp only [← hji10] <;> (first | rfl | simp)) | (simp [*]; done)), (by first | rfl | (simp; done) | (simp [*]; done)), H', ⟨by have := HJ4.out; have := HK2.out; omega⟩, by repeat (first | exact Drawn0.refl _ | apply Drawn0.step)⟩
                    · rw [if_neg c14] at H
                      exact absurd H (by simp)
                  · rw [if_neg c13] at H
                    exact absurd H (by simp)
                · rw [if_neg c12] at H
                  exact absurd H (by simp)
              · rw [if_neg c11] at H
                exact absurd H (by simp)
            · rw [if_neg c9] at H
              have c9b0 : decide (x12_2 < 10) = false := decide_eq_false c9
              clear c9
              by_cases c15 : t138.size + x11_2.size ≤ 9223372036854775807
              · rw [if_pos c15] at H
                have c15b0 := eq_true c15
                have c15b1 : decide (t138.size + x11_2.size ≤ 9223372036854775807) = true := decide_eq_true c15
                try have c15b2 : (9223372036854775807 < t138.size + x11_2.size) = False := eq_false (Nat.not_lt.2 c15)
                simp only [Option.some.injEq, Prod.mk.injEq] at H
                obtain ⟨rfl, rfl⟩ := H
                go_wp2
                go_ret2
                exact ⟨by first | rfl | (simp; done) | (simp [*]; done), by repeat (first | exact Drawn0.refl _ | apply Drawn0.step)⟩
              · rw [if_neg c15] at H
                exact absurd H (by simp)

/-! ### batonref02_Flag: function 15 -/
def batonref02_Flag.f (k : Nat) (a0 : ByteArray) : Option (ByteArray × Bool) := (batonref02_Prefix.f k 6 a0).bind fun bt140 => (if bt140.2 = true then (if bt140.1.size + 4 ≤ 9223372036854775807 then (some (bt140.1 ++ (⟨#[111, 112, 101, 110]⟩ : ByteArray), true)) else (none)) else (some ((⟨#[]⟩ : ByteArray), false)))
theorem batonref02_Flag.mono : ∀ a0 k, LeO (batonref02_Flag.f k a0) (batonref02_Flag.f (k + 1) a0) := by
  intro a0 k
  unfold batonref02_Flag.f
  repeat' first
      | (with_reducible exact batonref02_Prefix.mono _ _ _)
      | (with_reducible exact LeO.refl _)
      | (with_reducible exact LeO.none _)
      | (with_reducible refine LeO.ite ?_ ?_)
      | (with_reducible refine LeO.bind ?_ (fun _ => ?_))
      | exact batonref02_Prefix.mono _ _ _
      | exact LeO.none _
      | refine LeO.ite ?_ ?_
      | refine LeO.bind ?_ (fun _ => ?_)
set_option maxHeartbeats 8000000 in
set_option maxRecDepth 100000 in
theorem batonref02_Flag.calls (k : Nat) (a0 : ByteArray) (r1 : ByteArray) (r2 : Bool) (w : World) (h : batonref02_Flag.f k a0 = some (r1, r2)) :
    Calls Try.prog 15 #[.string a0] w fun e w' => e = .returned (.tuple #[.string r1, .bool r2]) ∧ Drawn0 w w' := by
  have H : ((batonref02_Prefix.f k 6 a0).bind fun bt140 => (if bt140.2 = true then (if bt140.1.size + 4 ≤ 9223372036854775807 then (some (bt140.1 ++ (⟨#[111, 112, 101, 110]⟩ : ByteArray), true)) else (none)) else (some ((⟨#[]⟩ : ByteArray), false)))) = some (r1, r2) := h
  clear h
  replace H := Option.bind_eq_some_iff.mp H
  obtain ⟨⟨t140, t141⟩, A20, H⟩ := H
  replace H : (if t141 = true then (if t140.size + 4 ≤ 9223372036854775807 then (some (t140 ++ (⟨#[111, 112, 101, 110]⟩ : ByteArray), true)) else (none)) else (some ((⟨#[]⟩ : ByteArray), false))) = some (r1, r2) := H
  have A2 := Aside0.mk A20
  clear A20
  by_cases c3 : t141 = true
  · subst c3
    have H1 : (if t140.size + 4 ≤ 9223372036854775807 then (some (t140 ++ (⟨#[111, 112, 101, 110]⟩ : ByteArray), true)) else (none)) = some (r1, r2) := by rw [if_pos rfl] at H; exact H
    clear H
    have H := H1
    clear H1
    by_cases c4 : t140.size + 4 ≤ 9223372036854775807
    · rw [if_pos c4] at H
      have c4b0 := eq_true c4
      have c4b1 : decide (t140.size + 4 ≤ 9223372036854775807) = true := decide_eq_true c4
      try have c4b2 : (9223372036854775807 < t140.size + 4) = False := eq_false (Nat.not_lt.2 c4)
      simp only [Option.some.injEq, Prod.mk.injEq] at H
      obtain ⟨rfl, rfl⟩ := H
      go_enter Try.func15, Try.ntmps15
      go_wp2_with (first | ((with_reducible refine gate_callee (f := 11) rfl ?_); refine goesL_ (some 8) rfl rfl Try.func11 (by kernel_rfl) rfl #[.int .i64 6, .string a0] rfl (by (try simp only [List.map_toArray, List.map_cons, List.map_nil]); first | done | rfl | (simp only [List.length_drop, List.length_take]; rfl)) ?_; (with_reducible refine (batonref02_Prefix.calls k 6 a0 t140 true _ A2.out).mono ?_); rintro e w' ⟨rfl, ⟨nd, rfl⟩⟩; refine ⟨_, rfl, ?_⟩))
      go_ret2
      exact ⟨by first | rfl | (simp; done) | (simp [*]; done), by repeat (first | exact Drawn0.refl _ | apply Drawn0.step)⟩
    · rw [if_neg c4] at H
      exact absurd H (by simp)
  · replace c3 := Bool.eq_false_iff.mpr c3
    subst c3
    have H1 : (some ((⟨#[]⟩ : ByteArray), false)) = some (r1, r2) := by rw [if_neg (show ¬ (false = true) by decide)] at H; exact H
    clear H
    have H := H1
    clear H1
    simp only [Option.some.injEq, Prod.mk.injEq] at H
    obtain ⟨rfl, rfl⟩ := H
    go_enter Try.func15, Try.ntmps15
    go_wp2_with (first | ((with_reducible refine gate_callee (f := 11) rfl ?_); refine goesL_ (some 8) rfl rfl Try.func11 (by kernel_rfl) rfl #[.int .i64 6, .string a0] rfl (by (try simp only [List.map_toArray, List.map_cons, List.map_nil]); first | done | rfl | (simp only [List.length_drop, List.length_take]; rfl)) ?_; (with_reducible refine (batonref02_Prefix.calls k 6 a0 t140 false _ A2.out).mono ?_); rintro e w' ⟨rfl, ⟨nd, rfl⟩⟩; refine ⟨_, rfl, ?_⟩))
    go_ret2
    exact ⟨by first | rfl | (simp; done) | (simp [*]; done), by repeat (first | exact Drawn0.refl _ | apply Drawn0.step)⟩

/-! ### batonref02_Check: function 17 -/
mutual
def batonref02_Check.j0 : Nat → ByteArray → Bool → Option (Bool)
  | 0, _, _ => none
  | k + 1, x0, x11 => if x11 = true then (some false) else (batonref02_Check.l0 k x0 0)
def batonref02_Check.l0 : Nat → ByteArray → Int → Option (Bool)
  | 0, _, _ => none
  | k + 1, x0, x3 => if x3 < (x0.size : Int) then (if 0 ≤ x3 then (if (bt x0 x3) < 33 then (some false) else (if (bt x0 x3) > 126 then (some false) else (batonref02_Check.l0 k x0 (wrap64 (x3 + 1))))) else (none)) else (some true)
end
def batonref02_Check.f (k : Nat) (a0 : ByteArray) : Option (Bool) := if (a0.size : Int) < 1 then (batonref02_Check.j0 k a0 true) else (batonref02_Check.j0 k a0 (decide ((a0.size : Int) > 40)))
theorem batonref02_Check.mono_l : ∀ k, (∀ y0 y1, LeO (batonref02_Check.j0 k y0 y1) (batonref02_Check.j0 (k + 1) y0 y1)) ∧ (∀ y0 y1, LeO (batonref02_Check.l0 k y0 y1) (batonref02_Check.l0 (k + 1) y0 y1))
  | 0 => ⟨fun _ _ r h => by simp [batonref02_Check.j0] at h, fun _ _ r h => by simp [batonref02_Check.l0] at h⟩
  | k + 1 => by
    obtain ⟨ih0, ih1⟩ := batonref02_Check.mono_l k
    refine ⟨?_, ?_⟩
    · intro y0 y1
      unfold batonref02_Check.j0
      repeat' first
      | (with_reducible exact ih0 _ _)
      | (with_reducible exact ih1 _ _)
      | (with_reducible exact LeO.refl _)
      | (with_reducible exact LeO.none _)
      | (with_reducible refine LeO.ite ?_ ?_)
      | (with_reducible refine LeO.bind ?_ (fun _ => ?_))
      | exact ih0 _ _
      | exact ih1 _ _
      | exact LeO.none _
      | refine LeO.ite ?_ ?_
      | refine LeO.bind ?_ (fun _ => ?_)
    · intro y0 y1
      unfold batonref02_Check.l0
      repeat' first
      | (with_reducible exact ih0 _ _)
      | (with_reducible exact ih1 _ _)
      | (with_reducible exact LeO.refl _)
      | (with_reducible exact LeO.none _)
      | (with_reducible refine LeO.ite ?_ ?_)
      | (with_reducible refine LeO.bind ?_ (fun _ => ?_))
      | exact ih0 _ _
      | exact ih1 _ _
      | exact LeO.none _
      | refine LeO.ite ?_ ?_
      | refine LeO.bind ?_ (fun _ => ?_)
theorem batonref02_Check.mono : ∀ a0 k, LeO (batonref02_Check.f k a0) (batonref02_Check.f (k + 1) a0) := by
  intro a0 k
  obtain ⟨ih0, ih1⟩ := batonref02_Check.mono_l k
  unfold batonref02_Check.f
  repeat' first
      | (with_reducible exact ih0 _ _)
      | (with_reducible exact ih1 _ _)
      | (with_reducible exact LeO.refl _)
      | (with_reducible exact LeO.none _)
      | (with_reducible refine LeO.ite ?_ ?_)
      | (with_reducible refine LeO.bind ?_ (fun _ => ?_))
      | exact ih0 _ _
      | exact ih1 _ _
      | exact LeO.none _
      | refine LeO.ite ?_ ?_
      | refine LeO.bind ?_ (fun _ => ?_)
set_option maxHeartbeats 8000000 in
set_option maxRecDepth 100000 in
theorem batonref02_Check.calls (k : Nat) (a0 : ByteArray) (r : Bool) (w : World) (h : batonref02_Check.f k a0 = some r) :
    Calls Try.prog 17 #[.string a0] w fun e w' => e = .returned (.bool r) ∧ Drawn0 w w' := by
  have H : (if (a0.size : Int) < 1 then (batonref02_Check.j0 k a0 true) else (batonref02_Check.j0 k a0 (decide ((a0.size : Int) > 40)))) = some r := h
  clear h
  have HC2 := Aside0.mk H
  clear H
  go_enter Try.func17, Try.ntmps17
  go_upto_region 1 with (fail)
  go_cut [11] (fun v11 wc => ∃ (kq : Nat) (x11_1 : Bool), v11 = .bool x11_1 ∧ Aside0 (batonref02_Check.j0 kq a0 x11_1 = some r) ∧ Aside0 (kq ≤ k) ∧ Drawn0 w wc)
  case first =>
    have H := HC2.out
    clear HC2
    by_cases c3 : (a0.size : Int) < 1
    · rw [if_pos c3] at H
      have c3b0 : decide ((a0.size : Int) < 1) = true := decide_eq_true c3
      have c3b1 : decide (a0.size < 1) = true := decide_eq_true (by omega)
      clear c3
      (first | rw [c3b0] | (simp only [i64_w, i32_w]; rw [c3b0]) | skip)
      have H' := Aside0.mk H
      clear H
      go_wp2
      go_meet
      case rel => exact ⟨_, (true), (by first | rfl | (simp; done) | (simp [*]; done)), H', ⟨by first | omega | exact Nat.le_refl _⟩, by repeat (first | exact Drawn0.refl _ | apply Drawn0.step)⟩
    · rw [if_neg c3] at H
      have c3b0 : decide ((a0.size : Int) < 1) = false := decide_eq_false c3
      have c3b1 : decide (a0.size < 1) = false := decide_eq_false (by omega)
      clear c3
      (first | rw [c3b0] | (simp only [i64_w, i32_w]; rw [c3b0]) | skip)
      have H' := Aside0.mk H
      clear H
      go_wp2
      go_meet
      case rel => exact ⟨_, (decide ((a0.size : Int) > 40)), (by first | rfl | (simp; done) | (simp [*]; done)), H', ⟨by first | omega | exact Nat.le_refl _⟩, by repeat (first | exact Drawn0.refl _ | apply Drawn0.step)⟩
  case rest =>
    clear HC2
    try clear c1
    try clear p2
    try clear c3
    try clear c3b0
    try clear c3b1
    obtain ⟨kq, x11_1, rfl, HA, HJ1, ⟨mc1, rfl⟩⟩ := hcut
    cases kq with
    | zero => exact absurd HA.out (by simp [batonref02_Check.j0])
    | succ kj1 =>
      have H := HA.out
      clear HA
      simp only [batonref02_Check.j0] at H
      by_cases c4 : x11_1 = true
      · subst c4
        have H1 : (some false) = some r := by rw [if_pos rfl] at H; exact H
        clear H
        have H := H1
        clear H1
        obtain rfl := Option.some.inj H
        go_wp2
        go_ret
        exact ⟨by first | rfl | (simp; done) | (simp [*]; done), by repeat (first | exact Drawn0.refl _ | apply Drawn0.step)⟩
      · replace c4 := Bool.eq_false_iff.mpr c4
        subst c4
        have H1 : (batonref02_Check.l0 kj1 a0 0) = some r := by rw [if_neg (show ¬ (false = true) by decide)] at H; exact H
        clear H
        have H := H1
        clear H1
        have H' := Aside0.mk H
        clear H
        go_wp2
        go_loopg [3] kj1 (fun kq v3 w' => ∃ (x3_2 : Int), v3 = .int .i64 x3_2 ∧ Aside0 (batonref02_Check.l0 kq a0 x3_2 = some r) ∧ Aside0 (kq ≤ kj1) ∧ Drawn0 w w')
        case atStart => exact ⟨(0), (by first | rfl | (simp; done) | (simp [*]; done)), H', ⟨Nat.le_refl _⟩, by repeat (first | exact Drawn0.refl _ | apply Drawn0.step)⟩
        case round =>
          clear H'
          try clear c1
          try clear p2
          try clear c3
          try clear c3b0
          try clear c3b1
          try clear c4
          try clear p2
          obtain ⟨x3_2, rfl, HA, HK2, ⟨m2, rfl⟩⟩ := hrel
          cases gk with
          | zero => exact absurd HA.out (by simp [batonref02_Check.l0])
          | succ k2 =>
            have H := HA.out
            clear HA
            simp only [batonref02_Check.l0] at H
            by_cases c5 : x3_2 < (a0.size : Int)
            · rw [if_pos c5] at H
              have c5b0 : decide (x3_2 < (a0.size : Int)) = true := decide_eq_true c5
              clear c5
              by_cases c6 : 0 ≤ x3_2
              · rw [if_pos c6] at H
                have c6b0 : decide (0 ≤ x3_2) = true := decide_eq_true c6
                clear c6
                by_cases c8 : (bt a0 x3_2) < 33
                · rw [if_pos c8] at H
                  have c8b0 : decide ((bt a0 x3_2) < 33) = true := decide_eq_true c8
                  clear c8
                  obtain rfl := Option.some.inj H
                  have p7 : 0 ≤ (x3_2 : Int) := of_decide_eq_true (by first | (with_reducible assumption) | assumption)
                  have q7 : x3_2 < (a0.size : Int) := of_decide_eq_true (by first | (with_reducible assumption) | assumption)
                  have hx7 := bt_at a0 x3_2
                  replace p7 := eq_true p7
                  replace q7 := eq_true q7
                  go_wp2
                  go_ret
                  exact ⟨by first | rfl | (simp; done) | (simp [*]; done), by repeat (first | exact Drawn0.refl _ | apply Drawn0.step)⟩
                · rw [if_neg c8] at H
                  have c8b0 : decide ((bt a0 x3_2) < 33) = false := decide_eq_false c8
                  clear c8
                  by_cases c10 : (bt a0 x3_2) > 126
                  · rw [if_pos c10] at H
                    have c10b0 : decide (126 < (bt a0 x3_2)) = true := decide_eq_true c10
                    clear c10
                    obtain rfl := Option.some.inj H
                    have p7 : 0 ≤ (x3_2 : Int) := of_decide_eq_true (by first | (with_reducible assumption) | assumption)
                    have q7 : x3_2 < (a0.size : Int) := of_decide_eq_true (by first | (with_reducible assumption) | assumption)
                    have hx7 := bt_at a0 x3_2
                    replace p7 := eq_true p7
                    replace q7 := eq_true q7
                    have p9 : 0 ≤ (x3_2 : Int) := of_decide_eq_true (by first | (with_reducible assumption) | assumption)
                    have q9 : x3_2 < (a0.size : Int) := of_decide_eq_true (by first | (with_reducible assumption) | assumption)
                    have hx9 := bt_at a0 x3_2
                    replace p9 := eq_true p9
                    replace q9 := eq_true q9
                    go_wp2
                    go_ret
                    exact ⟨by first | rfl | (simp; done) | (simp [*]; done), by repeat (first | exact Drawn0.refl _ | apply Drawn0.step)⟩
                  · rw [if_neg c10] at H
                    have c10b0 : decide (126 < (bt a0 x3_2)) = false := decide_eq_false c10
                    clear c10
                    have H' := Aside0.mk H
                    clear H
                    have p7 : 0 ≤ (x3_2 : Int) := of_decide_eq_true (by first | (with_reducible assumption) | assumption)
                    have q7 : x3_2 < (a0.size : Int) := of_decide_eq_true (by first | (with_reducible assumption) | assumption)
                    have hx7 := bt_at a0 x3_2
                    replace p7 := eq_true p7
                    replace q7 := eq_true q7
                    have p9 : 0 ≤ (x3_2 : Int) := of_decide_eq_true (by first | (with_reducible assumption) | assumption)
                    have q9 : x3_2 < (a0.size : Int) := of_decide_eq_true (by first | (with_reducible assumption) | assumption)
                    have hx9 := bt_at a0 x3_2
                    replace p9 := eq_true p9
                    replace q9 := eq_true q9
                    go_wp2
                    go_roundg k2
                    case measure => have := HJ1.out; have := HK2.out; omega
                    case rel => exact ⟨(wrap64 (x3_2 + 1)), (by first | rfl | (simp; done) | (simp [*]; done)), H', ⟨by have := HJ1.out; have := HK2.out; omega⟩, by repeat (first | exact Drawn0.refl _ | apply Drawn0.step)⟩
              · rw [if_neg c6] at H
                exact absurd H (by simp)
            · rw [if_neg c5] at H
              have c5b0 : decide (x3_2 < (a0.size : Int)) = false := decide_eq_false c5
              clear c5
              obtain rfl := Option.some.inj H
              go_wp2
              go_ret
              exact ⟨by first | rfl | (simp; done) | (simp [*]; done), by repeat (first | exact Drawn0.refl _ | apply Drawn0.step)⟩

/-! ### batonlaw02_KeyTells: function 3 -/
def batonlaw02_KeyTells.f (k : Nat) (a0 : ByteArray) (a1 : Int) (a2 : Int) : Option (Bool) := if (a0.size : Int) > 100 then ((batonlaw02_live.f).bind fun t142 => (some t142)) else ((key_Prefix.f a1 a0).bind fun bt143 => ((batonref02_Prefix.f k a1 a0).bind fun bt145 => ((key_Ticket.f a1 a0 a2).bind fun bt147 => ((batonref02_Ticket.f k a1 a0 a2).bind fun bt149 => ((key_Flag.f a0).bind fun bt151 => ((batonref02_Flag.f k a0).bind fun bt153 => ((key_Check.f a0).bind fun t155 => ((batonref02_Check.f k a0).bind fun t156 => (if (t155 == t156) = true then ((key_Name.f a0).bind fun t157 => ((batonref02_Name.f k a0).bind fun t158 => (if (t157 == t158) = true then (if bt143.1.toList = bt145.1.toList then (if (bt143.2 == bt145.2) = true then (if bt147.1.toList = bt149.1.toList then (if (bt147.2 == bt149.2) = true then (if bt151.1.toList = bt153.1.toList then (if (bt151.2 == bt153.2) = true then ((batonlaw02_live.f).bind fun t159 => (some t159)) else (none)) else (none)) else (none)) else (none)) else (none)) else (none)) else (none)))) else (none))))))))))
theorem batonlaw02_KeyTells.mono : ∀ a0 a1 a2 k, LeO (batonlaw02_KeyTells.f k a0 a1 a2) (batonlaw02_KeyTells.f (k + 1) a0 a1 a2) := by
  intro a0 a1 a2 k
  unfold batonlaw02_KeyTells.f
  repeat' first
      | (with_reducible exact batonref02_Check.mono _ _)
      | (with_reducible exact batonref02_Flag.mono _ _)
      | (with_reducible exact batonref02_Name.mono _ _)
      | (with_reducible exact batonref02_Prefix.mono _ _ _)
      | (with_reducible exact batonref02_Ticket.mono _ _ _ _)
      | (with_reducible exact LeO.refl _)
      | (with_reducible exact LeO.none _)
      | (with_reducible refine LeO.ite ?_ ?_)
      | (with_reducible refine LeO.bind ?_ (fun _ => ?_))
      | exact batonref02_Check.mono _ _
      | exact batonref02_Flag.mono _ _
      | exact batonref02_Name.mono _ _
      | exact batonref02_Prefix.mono _ _ _
      | exact batonref02_Ticket.mono _ _ _ _
      | exact LeO.none _
      | refine LeO.ite ?_ ?_
      | refine LeO.bind ?_ (fun _ => ?_)
set_option maxHeartbeats 8000000 in
set_option maxRecDepth 100000 in
theorem batonlaw02_KeyTells.calls (k : Nat) (a0 : ByteArray) (a1 : Int) (a2 : Int) (r : Bool) (w : World) (h : batonlaw02_KeyTells.f k a0 a1 a2 = some r) :
    Calls Try.prog 3 #[.string a0, .int .i64 a1, .int .i64 a2] w fun e w' => e = .returned (.bool r) ∧ Below w.heap.size w w' := by
  have HB := Aside0.mk (Below.refl w.heap.size w)
  have H : (if (a0.size : Int) > 100 then ((batonlaw02_live.f).bind fun t142 => (some t142)) else ((key_Prefix.f a1 a0).bind fun bt143 => ((batonref02_Prefix.f k a1 a0).bind fun bt145 => ((key_Ticket.f a1 a0 a2).bind fun bt147 => ((batonref02_Ticket.f k a1 a0 a2).bind fun bt149 => ((key_Flag.f a0).bind fun bt151 => ((batonref02_Flag.f k a0).bind fun bt153 => ((key_Check.f a0).bind fun t155 => ((batonref02_Check.f k a0).bind fun t156 => (if (t155 == t156) = true then ((key_Name.f a0).bind fun t157 => ((batonref02_Name.f k a0).bind fun t158 => (if (t157 == t158) = true then (if bt143.1.toList = bt145.1.toList then (if (bt143.2 == bt145.2) = true then (if bt147.1.toList = bt149.1.toList then (if (bt147.2 == bt149.2) = true then (if bt151.1.toList = bt153.1.toList then (if (bt151.2 == bt153.2) = true then ((batonlaw02_live.f).bind fun t159 => (some t159)) else (none)) else (none)) else (none)) else (none)) else (none)) else (none)) else (none)))) else (none))))))))))) = some r := h
  clear h
  by_cases c4 : (a0.size : Int) > 100
  · rw [if_pos c4] at H
    have c4b0 : decide (100 < (a0.size : Int)) = true := decide_eq_true c4
    have c4b1 : decide (100 < a0.size) = true := decide_eq_true (by omega)
    clear c4
    replace H := Option.bind_eq_some_iff.mp H
    obtain ⟨t142, A50, H⟩ := H
    replace H : (some t142) = some r := H
    have A5 := Aside0.mk A50
    clear A50
    obtain rfl := Option.some.inj H
    go_enter Try.func3, Try.ntmps3
    go_wp2_with (first | ((with_reducible refine gate_callee (f := 9) rfl ?_); refine goesL_ (some 22) rfl rfl Try.func9 (by kernel_rfl) rfl #[] rfl (by (try simp only [List.map_toArray, List.map_cons, List.map_nil]); first | done | rfl | (simp only [List.length_drop, List.length_take]; rfl)) ?_; (with_reducible refine (batonlaw02_live.calls  t142 _ A5.out).mono ?_); rintro e w6 ⟨rfl, hb⟩; refine ⟨_, rfl, ?_⟩; have n0_ := Aside0.mk (below_step (by repeat (first | (with_reducible first | exact HB.out | apply below_alloc | apply pw_below_drewN | apply below_drew1) | exact HB.out)) hb); clear HB; have HB := n0_; clear n0_; (try clear hb); (try clear hb2); (try clear hk); (try clear hi)))
    go_ret
    exact ⟨by first | rfl | (simp [errW_none, errW_some] <;> rfl) | (simp [*, errW_none, errW_some] <;> rfl), by repeat (first | (with_reducible first | exact HB.out | apply below_alloc | apply pw_below_drewN | apply below_drew1) | exact HB.out)⟩
  · rw [if_neg c4] at H
    have c4b0 : decide (100 < (a0.size : Int)) = false := decide_eq_false c4
    have c4b1 : decide (100 < a0.size) = false := decide_eq_false (by omega)
    clear c4
    replace H := Option.bind_eq_some_iff.mp H
    obtain ⟨⟨t143, t144⟩, A70, H⟩ := H
    replace H : ((batonref02_Prefix.f k a1 a0).bind fun bt145 => ((key_Ticket.f a1 a0 a2).bind fun bt147 => ((batonref02_Ticket.f k a1 a0 a2).bind fun bt149 => ((key_Flag.f a0).bind fun bt151 => ((batonref02_Flag.f k a0).bind fun bt153 => ((key_Check.f a0).bind fun t155 => ((batonref02_Check.f k a0).bind fun t156 => (if (t155 == t156) = true then ((key_Name.f a0).bind fun t157 => ((batonref02_Name.f k a0).bind fun t158 => (if (t157 == t158) = true then (if t143.toList = bt145.1.toList then (if (t144 == bt145.2) = true then (if bt147.1.toList = bt149.1.toList then (if (bt147.2 == bt149.2) = true then (if bt151.1.toList = bt153.1.toList then (if (bt151.2 == bt153.2) = true then ((batonlaw02_live.f).bind fun t159 => (some t159)) else (none)) else (none)) else (none)) else (none)) else (none)) else (none)) else (none)))) else (none))))))))) = some r := H
    have A7 := Aside0.mk A70
    clear A70
    replace H := Option.bind_eq_some_iff.mp H
    obtain ⟨⟨t145, t146⟩, A80, H⟩ := H
    replace H : ((key_Ticket.f a1 a0 a2).bind fun bt147 => ((batonref02_Ticket.f k a1 a0 a2).bind fun bt149 => ((key_Flag.f a0).bind fun bt151 => ((batonref02_Flag.f k a0).bind fun bt153 => ((key_Check.f a0).bind fun t155 => ((batonref02_Check.f k a0).bind fun t156 => (if (t155 == t156) = true then ((key_Name.f a0).bind fun t157 => ((batonref02_Name.f k a0).bind fun t158 => (if (t157 == t158) = true then (if t143.toList = t145.toList then (if (t144 == t146) = true then (if bt147.1.toList = bt149.1.toList then (if (bt147.2 == bt149.2) = true then (if bt151.1.toList = bt153.1.toList then (if (bt151.2 == bt153.2) = true then ((batonlaw02_live.f).bind fun t159 => (some t159)) else (none)) else (none)) else (none)) else (none)) else (none)) else (none)) else (none)))) else (none)))))))) = some r := H
    have A8 := Aside0.mk A80
    clear A80
    replace H := Option.bind_eq_some_iff.mp H
    obtain ⟨⟨t147, t148⟩, A90, H⟩ := H
    replace H : ((batonref02_Ticket.f k a1 a0 a2).bind fun bt149 => ((key_Flag.f a0).bind fun bt151 => ((batonref02_Flag.f k a0).bind fun bt153 => ((key_Check.f a0).bind fun t155 => ((batonref02_Check.f k a0).bind fun t156 => (if (t155 == t156) = true then ((key_Name.f a0).bind fun t157 => ((batonref02_Name.f k a0).bind fun t158 => (if (t157 == t158) = true then (if t143.toList = t145.toList then (if (t144 == t146) = true then (if t147.toList = bt149.1.toList then (if (t148 == bt149.2) = true then (if bt151.1.toList = bt153.1.toList then (if (bt151.2 == bt153.2) = true then ((batonlaw02_live.f).bind fun t159 => (some t159)) else (none)) else (none)) else (none)) else (none)) else (none)) else (none)) else (none)))) else (none))))))) = some r := H
    have A9 := Aside0.mk A90
    clear A90
    replace H := Option.bind_eq_some_iff.mp H
    obtain ⟨⟨t149, t150⟩, A100, H⟩ := H
    replace H : ((key_Flag.f a0).bind fun bt151 => ((batonref02_Flag.f k a0).bind fun bt153 => ((key_Check.f a0).bind fun t155 => ((batonref02_Check.f k a0).bind fun t156 => (if (t155 == t156) = true then ((key_Name.f a0).bind fun t157 => ((batonref02_Name.f k a0).bind fun t158 => (if (t157 == t158) = true then (if t143.toList = t145.toList then (if (t144 == t146) = true then (if t147.toList = t149.toList then (if (t148 == t150) = true then (if bt151.1.toList = bt153.1.toList then (if (bt151.2 == bt153.2) = true then ((batonlaw02_live.f).bind fun t159 => (some t159)) else (none)) else (none)) else (none)) else (none)) else (none)) else (none)) else (none)))) else (none)))))) = some r := H
    have A10 := Aside0.mk A100
    clear A100
    replace H := Option.bind_eq_some_iff.mp H
    obtain ⟨⟨t151, t152⟩, A110, H⟩ := H
    replace H : ((batonref02_Flag.f k a0).bind fun bt153 => ((key_Check.f a0).bind fun t155 => ((batonref02_Check.f k a0).bind fun t156 => (if (t155 == t156) = true then ((key_Name.f a0).bind fun t157 => ((batonref02_Name.f k a0).bind fun t158 => (if (t157 == t158) = true then (if t143.toList = t145.toList then (if (t144 == t146) = true then (if t147.toList = t149.toList then (if (t148 == t150) = true then (if t151.toList = bt153.1.toList then (if (t152 == bt153.2) = true then ((batonlaw02_live.f).bind fun t159 => (some t159)) else (none)) else (none)) else (none)) else (none)) else (none)) else (none)) else (none)))) else (none))))) = some r := H
    have A11 := Aside0.mk A110
    clear A110
    replace H := Option.bind_eq_some_iff.mp H
    obtain ⟨⟨t153, t154⟩, A120, H⟩ := H
    replace H : ((key_Check.f a0).bind fun t155 => ((batonref02_Check.f k a0).bind fun t156 => (if (t155 == t156) = true then ((key_Name.f a0).bind fun t157 => ((batonref02_Name.f k a0).bind fun t158 => (if (t157 == t158) = true then (if t143.toList = t145.toList then (if (t144 == t146) = true then (if t147.toList = t149.toList then (if (t148 == t150) = true then (if t151.toList = t153.toList then (if (t152 == t154) = true then ((batonlaw02_live.f).bind fun t159 => (some t159)) else (none)) else (none)) else (none)) else (none)) else (none)) else (none)) else (none)))) else (none)))) = some r := H
    have A12 := Aside0.mk A120
    clear A120
    replace H := Option.bind_eq_some_iff.mp H
    obtain ⟨t155, A130, H⟩ := H
    replace H : ((batonref02_Check.f k a0).bind fun t156 => (if (t155 == t156) = true then ((key_Name.f a0).bind fun t157 => ((batonref02_Name.f k a0).bind fun t158 => (if (t157 == t158) = true then (if t143.toList = t145.toList then (if (t144 == t146) = true then (if t147.toList = t149.toList then (if (t148 == t150) = true then (if t151.toList = t153.toList then (if (t152 == t154) = true then ((batonlaw02_live.f).bind fun t159 => (some t159)) else (none)) else (none)) else (none)) else (none)) else (none)) else (none)) else (none)))) else (none))) = some r := H
    have A13 := Aside0.mk A130
    clear A130
    replace H := Option.bind_eq_some_iff.mp H
    obtain ⟨t156, A140, H⟩ := H
    replace H : (if (t155 == t156) = true then ((key_Name.f a0).bind fun t157 => ((batonref02_Name.f k a0).bind fun t158 => (if (t157 == t158) = true then (if t143.toList = t145.toList then (if (t144 == t146) = true then (if t147.toList = t149.toList then (if (t148 == t150) = true then (if t151.toList = t153.toList then (if (t152 == t154) = true then ((batonlaw02_live.f).bind fun t159 => (some t159)) else (none)) else (none)) else (none)) else (none)) else (none)) else (none)) else (none)))) else (none)) = some r := H
    have A14 := Aside0.mk A140
    clear A140
    by_cases c15 : (t155 == t156) = true
    · rw [if_pos c15] at H
      have c15b0 : (t155 == t156) = true := c15
      (try (have c15b1 : decide (t155 = t156) = true := by simpa using c15))
      (try (have c15b2 : (t155 == t156) = true := by simpa using c15))
      clear c15
      replace H := Option.bind_eq_some_iff.mp H
      obtain ⟨t157, A160, H⟩ := H
      replace H : ((batonref02_Name.f k a0).bind fun t158 => (if (t157 == t158) = true then (if t143.toList = t145.toList then (if (t144 == t146) = true then (if t147.toList = t149.toList then (if (t148 == t150) = true then (if t151.toList = t153.toList then (if (t152 == t154) = true then ((batonlaw02_live.f).bind fun t159 => (some t159)) else (none)) else (none)) else (none)) else (none)) else (none)) else (none)) else (none))) = some r := H
      have A16 := Aside0.mk A160
      clear A160
      replace H := Option.bind_eq_some_iff.mp H
      obtain ⟨t158, A170, H⟩ := H
      replace H : (if (t157 == t158) = true then (if t143.toList = t145.toList then (if (t144 == t146) = true then (if t147.toList = t149.toList then (if (t148 == t150) = true then (if t151.toList = t153.toList then (if (t152 == t154) = true then ((batonlaw02_live.f).bind fun t159 => (some t159)) else (none)) else (none)) else (none)) else (none)) else (none)) else (none)) else (none)) = some r := H
      have A17 := Aside0.mk A170
      clear A170
      by_cases c18 : (t157 == t158) = true
      · rw [if_pos c18] at H
        have c18b0 : (t157 == t158) = true := c18
        (try (have c18b1 : decide (t157 = t158) = true := by simpa using c18))
        (try (have c18b2 : (t157 == t158) = true := by simpa using c18))
        clear c18
        by_cases c19 : t143.toList = t145.toList
        · rw [if_pos c19] at H
          have c19b0 : (t143.toList == t145.toList) = true := beq_iff_eq.mpr c19
          have c19b1 : (t143.toList != t145.toList) = false := bne_eq_false_iff_eq.mpr c19
          clear c19
          by_cases c20 : (t144 == t146) = true
          · rw [if_pos c20] at H
            have c20b0 : (t144 == t146) = true := c20
            (try (have c20b1 : decide (t144 = t146) = true := by simpa using c20))
            (try (have c20b2 : (t144 == t146) = true := by simpa using c20))
            clear c20
            by_cases c21 : t147.toList = t149.toList
            · rw [if_pos c21] at H
              have c21b0 : (t147.toList == t149.toList) = true := beq_iff_eq.mpr c21
              have c21b1 : (t147.toList != t149.toList) = false := bne_eq_false_iff_eq.mpr c21
              clear c21
              by_cases c22 : (t148 == t150) = true
              · rw [if_pos c22] at H
                have c22b0 : (t148 == t150) = true := c22
                (try (have c22b1 : decide (t148 = t150) = true := by simpa using c22))
                (try (have c22b2 : (t148 == t150) = true := by simpa using c22))
                clear c22
                by_cases c23 : t151.toList = t153.toList
                · rw [if_pos c23] at H
                  have c23b0 : (t151.toList == t153.toList) = true := beq_iff_eq.mpr c23
                  have c23b1 : (t151.toList != t153.toList) = false := bne_eq_false_iff_eq.mpr c23
                  clear c23
                  by_cases c24 : (t152 == t154) = true
                  · rw [if_pos c24] at H
                    have c24b0 : (t152 == t154) = true := c24
                    (try (have c24b1 : decide (t152 = t154) = true := by simpa using c24))
                    (try (have c24b2 : (t152 == t154) = true := by simpa using c24))
                    clear c24
                    replace H := Option.bind_eq_some_iff.mp H
                    obtain ⟨t159, A250, H⟩ := H
                    replace H : (some t159) = some r := H
                    have A25 := Aside0.mk A250
                    clear A250
                    obtain rfl := Option.some.inj H
                    go_enter Try.func3, Try.ntmps3
                    go_wp2_with (first | ((with_reducible refine gate_callee (f := 10) rfl ?_); refine goesL_ (some 26) rfl rfl Try.func10 (by kernel_rfl) rfl #[.int .i64 a1, .string a0] rfl (by (try simp only [List.map_toArray, List.map_cons, List.map_nil]); first | done | rfl | (simp only [List.length_drop, List.length_take]; rfl)) ?_; (with_reducible refine (key_Prefix.calls a1 a0 t143 t144 _ A7.out).mono ?_); rintro e w26 ⟨rfl, hb⟩; refine ⟨_, rfl, ?_⟩; have n0_ := Aside0.mk (below_step (by repeat (first | (with_reducible first | exact HB.out | apply below_alloc | apply pw_below_drewN | apply below_drew1) | exact HB.out)) hb); clear HB; have HB := n0_; clear n0_; (try clear hb); (try clear hb2); (try clear hk); (try clear hi)) | ((with_reducible refine gate_callee (f := 11) rfl ?_); refine goesL_ (some 32) rfl rfl Try.func11 (by kernel_rfl) rfl #[.int .i64 a1, .string a0] rfl (by (try simp only [List.map_toArray, List.map_cons, List.map_nil]); first | done | rfl | (simp only [List.length_drop, List.length_take]; rfl)) ?_; (with_reducible refine (batonref02_Prefix.calls k a1 a0 t145 t146 _ A8.out).mono ?_); rintro e w' ⟨rfl, ⟨nd, rfl⟩⟩; refine ⟨_, rfl, ?_⟩) | ((with_reducible refine gate_callee (f := 12) rfl ?_); refine goesL_ (some 39) rfl rfl Try.func12 (by kernel_rfl) rfl #[.int .i64 a1, .string a0, .int .i64 a2] rfl (by (try simp only [List.map_toArray, List.map_cons, List.map_nil]); first | done | rfl | (simp only [List.length_drop, List.length_take]; rfl)) ?_; (with_reducible refine (key_Ticket.calls a1 a0 a2 t147 t148 _ A9.out).mono ?_); rintro e w27 ⟨rfl, hb⟩; refine ⟨_, rfl, ?_⟩; have n0_ := Aside0.mk (below_step (by repeat (first | (with_reducible first | exact HB.out | apply below_alloc | apply pw_below_drewN | apply below_drew1) | exact HB.out)) hb); clear HB; have HB := n0_; clear n0_; (try clear hb); (try clear hb2); (try clear hk); (try clear hi)) | ((with_reducible refine gate_callee (f := 13) rfl ?_); refine goesL_ (some 46) rfl rfl Try.func13 (by kernel_rfl) rfl #[.int .i64 a1, .string a0, .int .i64 a2] rfl (by (try simp only [List.map_toArray, List.map_cons, List.map_nil]); first | done | rfl | (simp only [List.length_drop, List.length_take]; rfl)) ?_; (with_reducible refine (batonref02_Ticket.calls k a1 a0 a2 t149 t150 _ A10.out).mono ?_); rintro e w' ⟨rfl, ⟨nd, rfl⟩⟩; refine ⟨_, rfl, ?_⟩) | ((with_reducible refine gate_callee (f := 14) rfl ?_); refine goesL_ (some 51) rfl rfl Try.func14 (by kernel_rfl) rfl #[.string a0] rfl (by (try simp only [List.map_toArray, List.map_cons, List.map_nil]); first | done | rfl | (simp only [List.length_drop, List.length_take]; rfl)) ?_; (with_reducible refine (key_Flag.calls a0 t151 t152 _ A11.out).mono ?_); rintro e w28 ⟨rfl, hb⟩; refine ⟨_, rfl, ?_⟩; have n0_ := Aside0.mk (below_step (by repeat (first | (with_reducible first | exact HB.out | apply below_alloc | apply pw_below_drewN | apply below_drew1) | exact HB.out)) hb); clear HB; have HB := n0_; clear n0_; (try clear hb); (try clear hb2); (try clear hk); (try clear hi)) | ((with_reducible refine gate_callee (f := 15) rfl ?_); refine goesL_ (some 56) rfl rfl Try.func15 (by kernel_rfl) rfl #[.string a0] rfl (by (try simp only [List.map_toArray, List.map_cons, List.map_nil]); first | done | rfl | (simp only [List.length_drop, List.length_take]; rfl)) ?_; (with_reducible refine (batonref02_Flag.calls k a0 t153 t154 _ A12.out).mono ?_); rintro e w' ⟨rfl, ⟨nd, rfl⟩⟩; refine ⟨_, rfl, ?_⟩) | ((with_reducible refine gate_callee (f := 16) rfl ?_); refine goesL_ (some 60) rfl rfl Try.func16 (by kernel_rfl) rfl #[.string a0] rfl (by (try simp only [List.map_toArray, List.map_cons, List.map_nil]); first | done | rfl | (simp only [List.length_drop, List.length_take]; rfl)) ?_; (with_reducible refine (key_Check.calls a0 t155 _ A13.out).mono ?_); rintro e w29 ⟨rfl, hb⟩; refine ⟨_, rfl, ?_⟩; have n0_ := Aside0.mk (below_step (by repeat (first | (with_reducible first | exact HB.out | apply below_alloc | apply pw_below_drewN | apply below_drew1) | exact HB.out)) hb); clear HB; have HB := n0_; clear n0_; (try clear hb); (try clear hb2); (try clear hk); (try clear hi)) | ((with_reducible refine gate_callee (f := 17) rfl ?_); refine goesL_ (some 62) rfl rfl Try.func17 (by kernel_rfl) rfl #[.string a0] rfl (by (try simp only [List.map_toArray, List.map_cons, List.map_nil]); first | done | rfl | (simp only [List.length_drop, List.length_take]; rfl)) ?_; (with_reducible refine (batonref02_Check.calls k a0 t156 _ A14.out).mono ?_); rintro e w' ⟨rfl, ⟨nd, rfl⟩⟩; refine ⟨_, rfl, ?_⟩) | (go_at_call 18; (with_reducible refine (key_Name.calls a0 t157 _ A16.out).mono ?_); rintro e w30 ⟨rfl, hb⟩; have n0_ := Aside0.mk (below_step (by repeat (first | (with_reducible first | exact HB.out | apply below_alloc | apply pw_below_drewN | apply below_drew1) | exact HB.out)) hb); clear HB; have HB := n0_; clear n0_; (try clear hb); (try clear hb2); (try clear hk); (try clear hi)) | (go_at_call 19; (with_reducible refine (batonref02_Name.calls k a0 t158 _ A17.out).mono ?_); rintro e w' ⟨rfl, ⟨nd, rfl⟩⟩) | (go_at_call 9; (with_reducible refine (batonlaw02_live.calls  t159 _ A25.out).mono ?_); rintro e w31 ⟨rfl, hb⟩; have n0_ := Aside0.mk (below_step (by repeat (first | (with_reducible first | exact HB.out | apply below_alloc | apply pw_below_drewN | apply below_drew1) | exact HB.out)) hb); clear HB; have HB := n0_; clear n0_; (try clear hb); (try clear hb2); (try clear hk); (try clear hi)))
                    go_ret
                    exact ⟨by first | rfl | (simp [errW_none, errW_some] <;> rfl) | (simp [*, errW_none, errW_some] <;> rfl), by repeat (first | (with_reducible first | exact HB.out | apply below_alloc | apply pw_below_drewN | apply below_drew1) | exact HB.out)⟩
                  · rw [if_neg c24] at H
                    exact absurd H (by simp)
                · rw [if_neg c23] at H
                  exact absurd H (by simp)
              · rw [if_neg c22] at H
                exact absurd H (by simp)
            · rw [if_neg c21] at H
              exact absurd H (by simp)
          · rw [if_neg c20] at H
            exact absurd H (by simp)
        · rw [if_neg c19] at H
          exact absurd H (by simp)
      · rw [if_neg c18] at H
        exact absurd H (by simp)
    · rw [if_neg c15] at H
      exact absurd H (by simp)

end Go.Proofs.Ytfpkkjcefdighaa.PM
