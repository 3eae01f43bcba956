-- made by a program of this session (wip/tools/myprint.py over the kit's print) out of the translation; Lean checks it
import Derived.Test.YtaebmmjhokjdbaaPM0
import Derived.Test.YtaebmmjhokjdbaaClear
import Derived.Test.YtaebmmjhokjdbaaPM4
import Derived.Test.YtaebmmjhokjdbaaPM12
import Derived.Test.YtaebmmjhokjdbaaPM13
import Derived.Test.YtaebmmjhokjdbaaPM15
namespace Go.Proofs.Ytaebmmjhokjdbaa.PM
open Go.RowKit Go.Proofs.YtaebmmjhokjdbaaW.PrintWords Go.Proofs.YtaebmmjhokjdbaaW.PrintLast Go.Proofs.YtaebmmjhokjdbaaW.PrintMore
attribute [local go_sem] max2_int min2_int max_two min_two max_three min_three max_four min_four   -- for this text's walks alone
attribute [local go_sem high] Go.Proofs.Ytaebmmjhokjdbaa.My.str_leq Go.Proofs.Ytaebmmjhokjdbaa.My.str_gtr Go.Proofs.Ytaebmmjhokjdbaa.My.str_geq
set_option linter.unusedVariables false
set_option linter.unusedSimpArgs false

/-! ### key_Name: function 50 -/
def key_Name.f (a0 : ByteArray) : Option (Bool) := (key_each_62.f a0 12 ()).bind fun t160 => (some t160)
set_option maxHeartbeats 80000000 in
set_option maxRecDepth 100000 in
theorem key_Name.calls (a0 : ByteArray) (r : Bool) (w : World) (h : key_Name.f a0 = some r) :
    Calls Try.prog 50 #[.string a0] w fun e w' => e = .returned (.bool r) ∧ Below w.heap.size w w' := by
  have HB := My.m (Below.refl w.heap.size w); have H := h; clear h; unfold key_Name.f at H; replace H := Option.bind_eq_some_iff.mp H; obtain ⟨t160, A20, H⟩ := H; have A2 := Aside0.mk A20; clear A20; obtain rfl := Option.some.inj H
  go_enter Try.func50, Try.ntmps50
  go_wp2_with (first | ((with_reducible refine gate_callee (f := 61) rfl ?_); refine goesL_ (some 4) rfl rfl Try.func61 (by kernel_rfl) rfl #[.string a0, .int .i64 12, .func (.func 62) #[] #[]] rfl My.ar ?_; (with_reducible refine (key_each_62.calls a0 12 () t160 _ A2.out).mono ?_); rintro e w3 ⟨rfl, hb⟩; refine ⟨_, rfl, ?_⟩; have n0_ := My.m (below_step My.bB hb); clear HB; have HB := n0_; clear n0_; (try clear hb); (try clear hb2); (try clear hk); (try clear hi)))
  go_ret
  exact ⟨My.q1, My.bB⟩

/-! ### key_Prefix: function 32 -/
def key_Prefix.f (a0 : Int) (a1 : ByteArray) : Option (ByteArray × Bool) := (key_letter.f a0).bind fun t161 => (if t161.toList = ([] : List UInt8) then (some ((⟨#[]⟩ : ByteArray), false)) else ((key_Name.f a1).bind fun t162 => (if t162 = true then (if t161.size + 1 ≤ 9223372036854775807 then (if (t161 ++ (⟨#[47]⟩ : ByteArray)).size + a1.size ≤ 9223372036854775807 then (if ((t161 ++ (⟨#[47]⟩ : ByteArray)) ++ a1).size + 1 ≤ 9223372036854775807 then (some (((t161 ++ (⟨#[47]⟩ : ByteArray)) ++ a1) ++ (⟨#[47]⟩ : ByteArray), true)) else (none)) else (none)) else (none)) else (some ((⟨#[]⟩ : ByteArray), false)))))
set_option maxHeartbeats 80000000 in
set_option maxRecDepth 100000 in
theorem key_Prefix.calls (a0 : Int) (a1 : ByteArray) (r1 : ByteArray) (r2 : Bool) (w : World) (h : key_Prefix.f a0 a1 = some (r1, r2)) :
    Calls Try.prog 32 #[.int .i64 a0, .string a1] w fun e w' => e = .returned (.tuple #[.string r1, .bool r2]) ∧ Below w.heap.size w w' := by
  have HB := My.m (Below.refl w.heap.size w); have H := h; clear h; unfold key_Prefix.f at H; replace H := Option.bind_eq_some_iff.mp H; obtain ⟨t161, A30, H⟩ := H; have A3 := Aside0.mk A30; clear A30
  by_cases c4 : t161.toList = ([] : List UInt8)
  · rw [if_pos c4] at H
    have c4b0 : (t161.toList == ([] : List UInt8)) = true := beq_iff_eq.mpr c4; have c4b1 : (t161.toList != ([] : List UInt8)) = false := bne_eq_false_iff_eq.mpr c4; clear c4; simp only [Option.some.injEq, Prod.mk.injEq] at H; obtain ⟨rfl, rfl⟩ := H
    go_enter Try.func32, Try.ntmps32
    go_wp2_with (first | ((with_reducible refine gate_callee (f := 49) rfl ?_); refine goesL_ (some 8) rfl rfl Try.func49 (by kernel_rfl) rfl #[.int .i64 a0] rfl My.ar ?_; (with_reducible refine (key_letter.calls a0 t161 _ A3.out).mono ?_); rintro e w5 ⟨rfl, hb⟩; refine ⟨_, rfl, ?_⟩; have n0_ := My.m (below_step My.bB hb); clear HB; have HB := n0_; clear n0_; (try clear hb); (try clear hb2); (try clear hk); (try clear hi)))
    go_ret2
    exact ⟨My.q1, My.bB⟩
  · rw [if_neg c4] at H
    have c4b0 : (t161.toList == ([] : List UInt8)) = false := beq_eq_false_iff_ne.mpr c4; have c4b1 : (t161.toList != ([] : List UInt8)) = true := bne_iff_ne.mpr c4; replace H := Option.bind_eq_some_iff.mp H; obtain ⟨t162, A60, H⟩ := H; have A6 := Aside0.mk A60; clear A60
    by_cases c7 : t162 = true
    · subst c7
      rw [if_pos rfl] at H
      by_cases c8 : t161.size + 1 ≤ 9223372036854775807
      · rw [if_pos c8] at H
        have c8b0 := eq_true c8; have c8b1 : decide (t161.size + 1 ≤ 9223372036854775807) = true := decide_eq_true c8; (try have c8b2 : (9223372036854775807 < t161.size + 1) = False := eq_false (Nat.not_lt.2 c8))
        by_cases c9 : (t161 ++ (⟨#[47]⟩ : ByteArray)).size + a1.size ≤ 9223372036854775807
        · rw [if_pos c9] at H
          have c9b0 := eq_true c9; have c9b1 : decide ((t161 ++ (⟨#[47]⟩ : ByteArray)).size + a1.size ≤ 9223372036854775807) = true := decide_eq_true c9; (try have c9b2 : (9223372036854775807 < (t161 ++ (⟨#[47]⟩ : ByteArray)).size + a1.size) = False := eq_false (Nat.not_lt.2 c9)); (try (have c9b5 := c9b2; simp only [ByteArray.size_append, ByteArray.size_extract, My.size_mk, List.size_toArray, List.length_cons, List.length_nil, Nat.zero_add, Nat.reduceAdd] at c9b5)); (try (have c9b6 : (9223372036854775807 < (t161 ++ (⟨#[47]⟩ : ByteArray)).size) = False := eq_false (by have := c9; omega); simp only [ByteArray.size_append, ByteArray.size_extract, My.size_mk, List.size_toArray, List.length_cons, List.length_nil, Nat.zero_add, Nat.reduceAdd] at c9b6))
          by_cases c10 : ((t161 ++ (⟨#[47]⟩ : ByteArray)) ++ a1).size + 1 ≤ 9223372036854775807
          · rw [if_pos c10] at H
            have c10b0 := eq_true c10; have c10b1 : decide (((t161 ++ (⟨#[47]⟩ : ByteArray)) ++ a1).size + 1 ≤ 9223372036854775807) = true := decide_eq_true c10; (try have c10b2 : (9223372036854775807 < ((t161 ++ (⟨#[47]⟩ : ByteArray)) ++ a1).size + 1) = False := eq_false (Nat.not_lt.2 c10)); (try (have c10b5 := c10b2; simp only [ByteArray.size_append, ByteArray.size_extract, My.size_mk, List.size_toArray, List.length_cons, List.length_nil, Nat.zero_add, Nat.reduceAdd] at c10b5)); (try (have c10b6 : (9223372036854775807 < ((t161 ++ (⟨#[47]⟩ : ByteArray)) ++ a1).size) = False := eq_false (by have := c10; omega); simp only [ByteArray.size_append, ByteArray.size_extract, My.size_mk, List.size_toArray, List.length_cons, List.length_nil, Nat.zero_add, Nat.reduceAdd] at c10b6)); simp only [Option.some.injEq, Prod.mk.injEq] at H; obtain ⟨rfl, rfl⟩ := H
            go_enter Try.func32, Try.ntmps32
            go_wp2_with (first | ((with_reducible refine gate_callee (f := 49) rfl ?_); refine goesL_ (some 8) rfl rfl Try.func49 (by kernel_rfl) rfl #[.int .i64 a0] rfl My.ar ?_; (with_reducible refine (key_letter.calls a0 t161 _ A3.out).mono ?_); rintro e w11 ⟨rfl, hb⟩; refine ⟨_, rfl, ?_⟩; have n0_ := My.m (below_step My.bB hb); clear HB; have HB := n0_; clear n0_; (try clear hb); (try clear hb2); (try clear hk); (try clear hi)) | (go_at_call 50; (with_reducible refine (key_Name.calls a1 true _ A6.out).mono ?_); rintro e w12 ⟨rfl, hb⟩; have n0_ := My.m (below_step My.bB hb); clear HB; have HB := n0_; clear n0_; (try clear hb); (try clear hb2); (try clear hk); (try clear hi)))
            go_ret2
            exact ⟨My.q1, My.bB⟩
          · exact My.no c10 H
        · exact My.no c9 H
      · exact My.no c8 H
    · replace c7 := Bool.eq_false_iff.mpr c7
      subst c7; rw [if_neg (show ¬ (false = true) by decide)] at H; simp only [Option.some.injEq, Prod.mk.injEq] at H; obtain ⟨rfl, rfl⟩ := H
      go_enter Try.func32, Try.ntmps32
      go_wp2_with (first | ((with_reducible refine gate_callee (f := 49) rfl ?_); refine goesL_ (some 8) rfl rfl Try.func49 (by kernel_rfl) rfl #[.int .i64 a0] rfl My.ar ?_; (with_reducible refine (key_letter.calls a0 t161 _ A3.out).mono ?_); rintro e w13 ⟨rfl, hb⟩; refine ⟨_, rfl, ?_⟩; have n0_ := My.m (below_step My.bB hb); clear HB; have HB := n0_; clear n0_; (try clear hb); (try clear hb2); (try clear hk); (try clear hi)) | (go_at_call 50; (with_reducible refine (key_Name.calls a1 false _ A6.out).mono ?_); rintro e w14 ⟨rfl, hb⟩; have n0_ := My.m (below_step My.bB hb); clear HB; have HB := n0_; clear n0_; (try clear hb); (try clear hb2); (try clear hk); (try clear hi)))
      go_ret2
      exact ⟨My.q1, My.bB⟩

/-! ### stringslite_HasPrefix: function 63 -/
def stringslite_HasPrefix.f (a0 : ByteArray) (a1 : ByteArray) : Option (Bool) := if (a0.size : Int) ≥ (a1.size : Int) then (if 0 ≤ (a1.size : Int) then (if (a1.size : Int) ≤ (a0.size : Int) then (some ((a0.extract 0 ((a1.size : Int) : Int).toNat).toList == a1.toList)) else (none)) else (none)) else (some false)
set_option maxHeartbeats 80000000 in
set_option maxRecDepth 100000 in
theorem stringslite_HasPrefix.calls (a0 : ByteArray) (a1 : ByteArray) (r : Bool) (w : World) (h : stringslite_HasPrefix.f a0 a1 = some r) :
    Calls Try.prog 63 #[.string a0, .string a1] w fun e w' => e = .returned (.bool r) ∧ Drawn0 w w' := by
  have H : (if (a0.size : Int) ≥ (a1.size : Int) then (if 0 ≤ (a1.size : Int) then (if (a1.size : Int) ≤ (a0.size : Int) then (some ((a0.extract 0 ((a1.size : Int) : Int).toNat).toList == a1.toList)) else (none)) else (none)) else (some false)) = some r := h; clear h
  by_cases c3 : (a0.size : Int) ≥ (a1.size : Int)
  · rw [if_pos c3] at H
    have c3b0 := decide_eq_true c3; have c3b1 : decide (a1.size ≤ a0.size) = true := decide_eq_true (Int.ofNat_le.mp c3); clear c3
    by_cases c4 : 0 ≤ (a1.size : Int)
    · rw [if_pos c4] at H
      have c4b0 := eq_true c4; have c4b1 : decide (0 ≤ (a1.size : Int)) = true := decide_eq_true c4; clear c4
      by_cases c5 : (a1.size : Int) ≤ (a0.size : Int)
      · rw [if_pos c5] at H
        have c5b0 := eq_true c5; have c5b1 : decide ((a1.size : Int) ≤ (a0.size : Int)) = true := decide_eq_true c5; clear c5; obtain rfl := Option.some.inj H
        go_enter Try.func63, Try.ntmps63
        go_wp2
        go_ret
        exact ⟨My.q0, My.dD⟩
      · exact My.no c5 H
    · exact My.no c4 H
  · rw [if_neg c3] at H
    have c3b0 := decide_eq_false c3; have c3b1 : decide (a1.size ≤ a0.size) = false := decide_eq_false (fun h => c3 (Int.ofNat_le.mpr h)); clear c3; obtain rfl := Option.some.inj H
    go_enter Try.func63, Try.ntmps63
    go_wp2
    go_ret
    exact ⟨My.q0, My.dD⟩

/-! ### strings_HasPrefix: function 51 -/
def strings_HasPrefix.f (a0 : ByteArray) (a1 : ByteArray) : Option (Bool) := (stringslite_HasPrefix.f a0 a1).bind fun t163 => (some t163)
set_option maxHeartbeats 80000000 in
set_option maxRecDepth 100000 in
theorem strings_HasPrefix.calls (a0 : ByteArray) (a1 : ByteArray) (r : Bool) (w : World) (h : strings_HasPrefix.f a0 a1 = some r) :
    Calls Try.prog 51 #[.string a0, .string a1] w fun e w' => e = .returned (.bool r) ∧ Drawn0 w w' := by
  have H := h; clear h; unfold strings_HasPrefix.f at H; replace H := Option.bind_eq_some_iff.mp H; obtain ⟨t163, A30, H⟩ := H; have A3 := Aside0.mk A30; clear A30; obtain rfl := Option.some.inj H
  go_enter Try.func51, Try.ntmps51
  go_wp2_with (first | ((with_reducible refine gate_callee (f := 63) rfl ?_); refine goesL_ (some 7) rfl rfl Try.func63 (by kernel_rfl) rfl #[.string a0, .string a1] rfl My.ar ?_; (with_reducible refine (stringslite_HasPrefix.calls a0 a1 t163 _ A3.out).mono ?_); rintro e w' ⟨rfl, ⟨nd, rfl⟩⟩; refine ⟨_, rfl, ?_⟩))
  go_ret
  exact ⟨My.q0, My.dD⟩

/-! ### hist_From: function 33 -/
def hist_From.l0 : Nat → ByteArray → List (S26) → List (S26) → Int → Int → Option ((List (S26)))
  | 0, _, _, _, _, _ => none
  | k + 1, x1, x5, x8, x9, x10 => if x10 < x9 then (if 0 ≤ x10 then (if x10 < (x8.length : Int) then ((strings_HasPrefix.f ((rd_T26 x8 x10).f0) x1).bind fun t166 => (if t166 = true then (if x5.length < 2199023255552 then (hist_From.l0 k x1 (x5 ++ [(⟨(rd_T26 x8 x10).f0, (rd_T26 x8 x10).f1, (rd_T26 x8 x10).f2, (rd_T26 x8 x10).f3, (rd_T26 x8 x10).f4, (rd_T26 x8 x10).f5⟩ : S26)]) x8 x9 (wrap64 (x10 + 1))) else (none)) else (hist_From.l0 k x1 x5 x8 x9 (wrap64 (x10 + 1))))) else (none)) else (none)) else (some x5)
def hist_From.f (k : Nat) (l0 : List (S26)) (a1 : ByteArray) : Option ((List (S26))) := hist_From.l0 k a1 ([] : List (S26)) l0 (l0.length : Int) 0
theorem hist_From.mono_l : ∀ k, (∀ y0 y1 y2 y3 y4, LeO (hist_From.l0 k y0 y1 y2 y3 y4) (hist_From.l0 (k + 1) y0 y1 y2 y3 y4))
  | 0 => fun _ _ _ _ _ r h => by simp [hist_From.l0] at h
  | k + 1 => by
    have ih0 := hist_From.mono_l k
    · intro y0 y1 y2 y3 y4
      unfold hist_From.l0
      exact My.mono_
theorem hist_From.mono : ∀ a0 a1 k, LeO (hist_From.f k a0 a1) (hist_From.f (k + 1) a0 a1) := by
  intro a0 a1 k
  have ih0 := hist_From.mono_l k
  unfold hist_From.f
  exact My.mono_
set_option maxHeartbeats 80000000 in
set_option maxRecDepth 100000 in
theorem hist_From.calls (k : Nat) (A0 : Option Addr) (c0 : Nat) (l0 : List (S26)) (a1 : ByteArray) (r : List (S26)) (w : World) (hr0 : Kd.C k26 w A0 l0.length l0) (hc0 : l0.length ≤ c0) (h : hist_From.f k l0 a1 = some r) :
    Calls Try.prog 33 #[.slice A0 l0.length c0, .string a1] w fun e w' => ∃ v0_ : Value, e = .returned (v0_) ∧ Kd.R k26 26 w' w.heap.size (fun _ => True) v0_ r ∧ Below w.heap.size w w' := by
  have hu26 := Try.underlying26; have HR0 := Aside0.mk hr0; have HC0 := Aside0.mk hc0; clear hr0 hc0; have HB := My.m (Below.refl w.heap.size w); have H := h; clear h; unfold hist_From.f at H; have H' := Aside0.mk H; clear H
  go_enter Try.func33, Try.ntmps33
  go_wp2
  go_loopg [5, 10] k (fun kq v5 v10 w' => ∃ (x5_1 : List (S26)) (x10_1 : Int), v10 = .int .i64 x10_1 ∧ Aside0 (hist_From.l0 kq a1 x5_1 l0 (l0.length : Int) x10_1 = some r) ∧ Aside0 (kq ≤ k) ∧ Aside0 (Kd.R k26 26 w' w.heap.size (fun _ => True) v5 x5_1) ∧ Aside0 (Below w.heap.size w w'))
  case atStart => exact ⟨(([] : List (S26))), (0), My.q0, H', ⟨Nat.le_refl _⟩, ⟨by first | exact Kd.R_nil _ _ _ _ _ | exact Kd.N_nil _ _ _ _ _ | exact Kd.V_nil _ _ _ _ _ | exact Kd.Q_nil _ _ _ _ _ | exact Kd.S_nil _ _ _ _ _⟩, ⟨My.bB⟩⟩
  case round =>
    clear H'; (try clear p2); obtain ⟨x5_1, x10_1, rfl, HA, HK1, HO_5, HB⟩ := hrel
    cases gk with
    | zero => exact absurd HA.out (by simp [hist_From.l0])
    | succ k1 =>
      have H := HA.out; clear HA; simp only [hist_From.l0] at H
      by_cases c3 : x10_1 < (l0.length : Int)
      · rw [if_pos c3] at H
        have c3b0 := decide_eq_true c3; clear c3
        by_cases c4 : 0 ≤ x10_1
        · rw [if_pos c4] at H
          have c4b0 := decide_eq_true c4; clear c4
          by_cases c5 : x10_1 < (l0.length : Int)
          · rw [if_pos c5] at H
            have c5b0 := decide_eq_true c5; clear c5; replace H := Option.bind_eq_some_iff.mp H; obtain ⟨t166, A60, H⟩ := H; have A6 := Aside0.mk A60; clear A60
            by_cases c7 : t166 = true
            · subst c7
              rw [if_pos rfl] at H
              by_cases c8 : x5_1.length < 2199023255552
              · rw [if_pos c8] at H
                have LMc8 := Aside0.mk c8; clear c8; obtain ⟨y167, hy167⟩ : ∃ y_ : List (S26), y_ = (x5_1 ++ [(⟨(rd_T26 l0 x10_1).f0, (rd_T26 l0 x10_1).f1, (rd_T26 l0 x10_1).f2, (rd_T26 l0 x10_1).f3, (rd_T26 l0 x10_1).f4, (rd_T26 l0 x10_1).f5⟩ : S26)]) := ⟨_, rfl⟩; (replace H : (hist_From.l0 k1 a1 y167 l0 (l0.length : Int) (wrap64 (x10_1 + 1))) = some r := by first | (rw [hy167]; with_reducible exact H) | (have H2_ := (Option.bind_some _ _).symm.trans H; rw [hy167]; with_reducible exact H2_) | (have H2_ := (Option.bind_some _ _).symm.trans H; with_reducible exact H2_) | with_reducible exact H | (rw [hy167]; exact H) | exact H); have Ny167 := Aside0.mk hy167; clear hy167; have H' := Aside0.mk H; clear H; have p164 : 0 ≤ (x10_1 : Int) := of_decide_eq_true My.as; have q164 : x10_1 < (l0.length : Int) := of_decide_eq_true My.as; obtain ⟨ad164, e164, hx164_0, hx164_1, hx164_2, hx164_3, hx164_4, hx164_5⟩ := at_T26 HR0.out x10_1 p164 q164; cases e164; replace hx164_0 := My.up HB.out hx164_0; replace hx164_1 := My.up HB.out hx164_1; replace hx164_2 := My.up HB.out hx164_2; replace hx164_3 := My.up HB.out hx164_3; replace hx164_4 := My.up HB.out hx164_4; replace hx164_5 := My.up HB.out hx164_5; replace p164 := eq_true p164; replace q164 := eq_true q164
                go_wp2_with (first | ((with_reducible refine gate_dst (N := 7) rfl ?_); refine My.be 7 26 #[.string (⟨#[]⟩ : ByteArray), .string (⟨#[]⟩ : ByteArray), .int .i64 0, .int .i64 0, .int .i64 0, .int .i64 0] ?_; intro gb165 hg w9 hbox hb; replace HO_5 := My.m (Kd.R_below (Kd.R_elderB (My.Ra HO_5.out) gb165 (Nat.le_of_eq hg.symm)) hb); have BK165 := My.m hbox; have GW165 := My.m ((My.nw w hg My.bB)); have GE165 := My.m ((My.nw w hg My.bB)); replace HB := My.m (below_step My.bB hb); clear hb hbox hg; obtain ⟨_, _, _, _, _, _⟩ := My.qc6 BK165.out; obtain ⟨_, _, _, _, _, _⟩ := My.qf6 BK165.out) | ((with_reducible refine gate_callee (f := 51) rfl ?_); refine goesL_ (some 17) rfl rfl Try.func51 (by kernel_rfl) rfl #[.string ((rd_T26 l0 x10_1).f0), .string a1] rfl My.ar ?_; (with_reducible refine (strings_HasPrefix.calls ((rd_T26 l0 x10_1).f0) a1 true _ A6.out).mono ?_); rintro e w' ⟨rfl, ⟨nd, rfl⟩⟩; refine ⟨_, rfl, ?_⟩) | ((with_reducible refine gate_builtin (b := .append) (xs := #[.tmp 18, .tmp 20]) rfl ?_); at_builtin; refine Kd.R_append k26 (w0 := w) w.heap.size rfl (.tmp 18) (.tmp 20) 22 26 (.agg #[(.string ⟨#[]⟩), (.string ⟨#[]⟩), (.int .i64 0), (.int .i64 0), (.int .i64 0), (.int .i64 0)]) 64 rfl Try.underlying22 info26 rfl (by decide) (by omega) u5 x5_1 (⟨(rd_T26 l0 x10_1).f0, (rd_T26 l0 x10_1).f1, (rd_T26 l0 x10_1).f2, (rd_T26 l0 x10_1).f3, (rd_T26 l0 x10_1).f4, (rd_T26 l0 x10_1).f5⟩ : S26) [.string ((rd_T26 l0 x10_1).f0), .string ((rd_T26 l0 x10_1).f1), .int .i64 ((rd_T26 l0 x10_1).f2), .int .i64 ((rd_T26 l0 x10_1).f3), .int .i64 ((rd_T26 l0 x10_1).f4), .int .i64 ((rd_T26 l0 x10_1).f5)] (fun k_ => k_ ≠ gb165) (fun _ => False) rfl (by first | (go_simp; done) | (go_simp; rfl)) ?aP (fun _ hk => hk.elim) ?aF ?aO ?aB ?aS ?aL ?_; (case aP => exact k26_mkM _ _ _ (⟨(rd_T26 l0 x10_1).f0, (rd_T26 l0 x10_1).f1, (rd_T26 l0 x10_1).f2, (rd_T26 l0 x10_1).f3, (rd_T26 l0 x10_1).f4, (rd_T26 l0 x10_1).f5⟩ : S26)); (case aB => exact My.bA); (case aF => exact (fun k_ hk => Kd.freshB (g := gb165) (o := .cells #[.string ((rd_T26 l0 x10_1).f0), .string ((rd_T26 l0 x10_1).f1), .int .i64 ((rd_T26 l0 x10_1).f2), .int .i64 ((rd_T26 l0 x10_1).f3), .int .i64 ((rd_T26 l0 x10_1).f4), .int .i64 ((rd_T26 l0 x10_1).f5)] 26 (0, 0)) (My.dq (My.qp6 BK165.out)) k_ hk)); (case aO => exact (by (with_reducible repeat (first | apply Kd.R_alloc | apply Kd.R_drewN | apply Kd.R_drew)); exact Kd.R_mono (My.qr6 (Kd.R_mono HO_5.out (fun k_ hk => (⟨hk, hk.2⟩ : _ ∧ k_ ≠ gb165))) (fun _ hk => hk.2)) (fun _ hk => hk.1.2))); (case aS => exact (below_size My.bA)); (case aL => have := LMc8.out; omega); intro v168 w11 ho hb hg hat; rw [← Ny167.out] at ho; replace BK165 := My.m (blk_grown (g := gb165) (o := .cells #[.string ((rd_T26 l0 x10_1).f0), .string ((rd_T26 l0 x10_1).f1), .int .i64 ((rd_T26 l0 x10_1).f2), .int .i64 ((rd_T26 l0 x10_1).f3), .int .i64 ((rd_T26 l0 x10_1).f4), .int .i64 ((rd_T26 l0 x10_1).f5)] 26 (0, 0)) (My.dq (My.qp6 BK165.out)) hg (Kd.R_away HO_5.out (fun _ hk => hk.2))); replace HB := My.m hb; have HO169 := My.m ho; clear HO_5; clear ho hb hg hat))
                go_roundg k1
                case measure => have := HK1.out; omega
                case rel => exact ⟨(y167), (wrap64 (x10_1 + 1)), My.q0, H', ⟨by have := HK1.out; omega⟩, ⟨by (with_reducible repeat (first | apply Kd.R_alloc | apply Kd.R_drewN | apply Kd.R_drew)); exact Kd.R_mono HO169.out (fun _ hk => trivial)⟩, ⟨My.bA⟩⟩
              · exact My.no c8 H
            · replace c7 := Bool.eq_false_iff.mpr c7
              subst c7; rw [if_neg (show ¬ (false = true) by decide)] at H; have H' := Aside0.mk H; clear H; have p164 : 0 ≤ (x10_1 : Int) := of_decide_eq_true My.as; have q164 : x10_1 < (l0.length : Int) := of_decide_eq_true My.as; obtain ⟨ad164, e164, hx164_0, hx164_1, hx164_2, hx164_3, hx164_4, hx164_5⟩ := at_T26 HR0.out x10_1 p164 q164; cases e164; replace hx164_0 := My.up HB.out hx164_0; replace hx164_1 := My.up HB.out hx164_1; replace hx164_2 := My.up HB.out hx164_2; replace hx164_3 := My.up HB.out hx164_3; replace hx164_4 := My.up HB.out hx164_4; replace hx164_5 := My.up HB.out hx164_5; replace p164 := eq_true p164; replace q164 := eq_true q164
              go_wp2_with (first | ((with_reducible refine gate_dst (N := 7) rfl ?_); refine My.be 7 26 #[.string (⟨#[]⟩ : ByteArray), .string (⟨#[]⟩ : ByteArray), .int .i64 0, .int .i64 0, .int .i64 0, .int .i64 0] ?_; intro gb165 hg w12 hbox hb; replace HO_5 := My.m (Kd.R_below (Kd.R_elderB (My.Ra HO_5.out) gb165 (Nat.le_of_eq hg.symm)) hb); have BK165 := My.m hbox; have GW165 := My.m ((My.nw w hg My.bB)); have GE165 := My.m ((My.nw w hg My.bB)); replace HB := My.m (below_step My.bB hb); clear hb hbox hg; obtain ⟨_, _, _, _, _, _⟩ := My.qc6 BK165.out; obtain ⟨_, _, _, _, _, _⟩ := My.qf6 BK165.out) | ((with_reducible refine gate_callee (f := 51) rfl ?_); refine goesL_ (some 17) rfl rfl Try.func51 (by kernel_rfl) rfl #[.string ((rd_T26 l0 x10_1).f0), .string a1] rfl My.ar ?_; (with_reducible refine (strings_HasPrefix.calls ((rd_T26 l0 x10_1).f0) a1 false _ A6.out).mono ?_); rintro e w' ⟨rfl, ⟨nd, rfl⟩⟩; refine ⟨_, rfl, ?_⟩))
              go_roundg k1
              case measure => have := HK1.out; omega
              case rel => exact ⟨(x5_1), (wrap64 (x10_1 + 1)), My.q0, H', ⟨by have := HK1.out; omega⟩, ⟨by (with_reducible repeat (first | apply Kd.R_alloc | apply Kd.R_drewN | apply Kd.R_drew)); exact Kd.R_mono (My.qr6 (Kd.R_mono HO_5.out (fun k_ hk => (⟨hk, hk.2⟩ : _ ∧ k_ ≠ gb165))) (fun _ hk => hk.2)) (fun _ hk => trivial)⟩, ⟨My.bA⟩⟩
          · exact My.no c5 H
        · exact My.no c4 H
      · rw [if_neg c3] at H
        have c3b0 := decide_eq_false c3; clear c3; obtain rfl := Option.some.inj H
        go_wp2
        go_ret
        exact ⟨_, My.q1, My.Ra HO_5.out, My.bB⟩

/-! ### elect_Reign: function 13 -/
def elect_Reign.f (k : Nat) (l0 : List (S26)) (a1 : ByteArray) : Option (Int × ByteArray × Bool) := (key_Prefix.f 5 a1).bind fun bt170 => (if bt170.2 = true then ((hist_From.f k l0 bt170.1).bind fun t172 => ((elect_Head.f t172).bind fun bt175 => (some (bt175.2.2.1, bt175.2.1, bt175.2.2.2.2.2.2)))) else (some (0, (⟨#[]⟩ : ByteArray), false)))
theorem elect_Reign.mono : ∀ a0 a1 k, LeO (elect_Reign.f k a0 a1) (elect_Reign.f (k + 1) a0 a1) := by
  intro a0 a1 k
  unfold elect_Reign.f
  have ic0 := @hist_From.mono; exact My.mono_
set_option maxHeartbeats 80000000 in
set_option maxRecDepth 100000 in
theorem elect_Reign.calls (k : Nat) (A0 : Option Addr) (c0 : Nat) (l0 : List (S26)) (a1 : ByteArray) (r1 : Int) (r2 : ByteArray) (r3 : Bool) (w : World) (hr0 : Kd.C k26 w A0 l0.length l0) (hc0 : l0.length ≤ c0) (h : elect_Reign.f k l0 a1 = some (r1, r2, r3)) :
    Calls Try.prog 13 #[.slice A0 l0.length c0, .string a1] w fun e w' => e = .returned (.tuple #[.int .i64 r1, .string r2, .bool r3]) ∧ Below w.heap.size w w' := by
  have hu26 := Try.underlying26; have HR0 := Aside0.mk hr0; have HC0 := Aside0.mk hc0; clear hr0 hc0; have HB := My.m (Below.refl w.heap.size w); have H := h; clear h; unfold elect_Reign.f at H; replace H := Option.bind_eq_some_iff.mp H; obtain ⟨⟨t170, t171⟩, A30, H⟩ := H; dsimp only at H; have A3 := Aside0.mk A30; clear A30
  by_cases c4 : t171 = true
  · subst c4
    rw [if_pos rfl] at H; replace H := Option.bind_eq_some_iff.mp H; obtain ⟨t172, A50, H⟩ := H; have A5 := Aside0.mk A50; clear A50; replace H := Option.bind_eq_some_iff.mp H; obtain ⟨⟨t175, t176, t177, t178, t179, t180, t181⟩, A60, H⟩ := H; dsimp only at H; have A6 := Aside0.mk A60; clear A60; simp only [Option.some.injEq, Prod.mk.injEq] at H; obtain ⟨rfl, rfl, rfl⟩ := H
    go_enter Try.func13, Try.ntmps13
    go_wp2_with (first | (go_at_call 32; (with_reducible refine (key_Prefix.calls 5 a1 t170 true _ A3.out).mono ?_); rintro e w7 ⟨rfl, hb⟩; have n0_ := My.m (below_step My.bB hb); clear HB; have HB := n0_; clear n0_; (try clear hb); (try clear hb2); (try clear hk); (try clear hi)) | (go_at_call 33; (with_reducible refine (hist_From.calls k _ _ l0 t170 t172 _ ?side1 ?side2 A5.out).mono ?_); (case side1 => exact My.Ca (Kd.C_below HR0.out HB.out)); (case side2 => exact HC0.out); rintro e w8 ⟨v173, rfl, ho0, hb⟩; have HO174 := My.m (Kd.R_lower ho0 (below_size My.bB)); replace HB := My.m (below_step My.bB hb); (try clear hb); (try clear hb2); (try clear hk); (try clear hi); (try clear ho0); obtain ⟨Ao9, co9, eo9⟩ := Kd.R_slice HO174.out; subst eo9) | (go_at_call 11; (with_reducible refine (elect_Head.calls _ _ t172 t175 t176 t177 t178 t179 t180 t181 _ ?side1 ?side2 A6.out).mono ?_); (case side1 => repeat (first | exact (Kd.R_reads' HO174.out).2.2 | (with_reducible refine Kd.C_alloc ?_ _) | (with_reducible refine Kd.C_drewN ?_ _) | (with_reducible refine Kd.C_drew ?_))); (case side2 => exact (Kd.R_reads' HO174.out).2.1); rintro e w10 ⟨rfl, hb⟩; replace HO174 := My.m (Kd.R_below (My.Ra HO174.out) hb); replace HB := My.m (below_step My.bB hb); (try clear hb); (try clear hb2); (try clear hk); (try clear hi)) | ((with_reducible refine gate_dst (N := 9) rfl ?_); refine My.be 9 26 #[.string (⟨#[]⟩ : ByteArray), .string (⟨#[]⟩ : ByteArray), .int .i64 0, .int .i64 0, .int .i64 0, .int .i64 0] ?_; intro gb182 hg w11 hbox hb; replace HO174 := My.m (Kd.R_below (Kd.R_elderB (My.Ra HO174.out) gb182 (Nat.le_of_eq hg.symm)) hb); have BK182 := My.m hbox; have GW182 := My.m ((My.nw w hg My.bB)); have GE182 := My.m ((My.nw w hg My.bB)); replace HB := My.m (below_step My.bB hb); clear hb hbox hg; obtain ⟨_, _, _, _, _, _⟩ := My.qc6 BK182.out; obtain ⟨_, _, _, _, _, _⟩ := My.qf6 BK182.out))
    repeat (go_quiet (fail); try go_wp2)
    go_ret3
    exact ⟨My.q1, My.bA⟩
  · replace c4 := Bool.eq_false_iff.mpr c4
    subst c4; rw [if_neg (show ¬ (false = true) by decide)] at H; simp only [Option.some.injEq, Prod.mk.injEq] at H; obtain ⟨rfl, rfl, rfl⟩ := H
    go_enter Try.func13, Try.ntmps13
    go_wp2_with (first | (go_at_call 32; (with_reducible refine (key_Prefix.calls 5 a1 t170 false _ A3.out).mono ?_); rintro e w13 ⟨rfl, hb⟩; have n0_ := My.m (below_step My.bB hb); clear HB; have HB := n0_; clear n0_; (try clear hb); (try clear hb2); (try clear hk); (try clear hi)))
    repeat (go_quiet (fail); try go_wp2)
    go_ret3
    exact ⟨My.q1, My.bB⟩

/-! ### batonref08_Ints: function 15 -/
def batonref08_Ints.l0 : Nat → List Int → List Int → Int → Option (Bool)
  | 0, _, _, _ => none
  | k + 1, x0, x1, x5 => if x5 < (x0.length : Int) then (if 0 ≤ x5 then (if x5 < (x1.length : Int) then (if (rd x0 x5) = (rd x1 x5) then (batonref08_Ints.l0 k x0 x1 (wrap64 (x5 + 1))) else (some false)) else (none)) else (none)) else (some true)
def batonref08_Ints.f (k : Nat) (l0 : List Int) (l1 : List Int) : Option (Bool) := if (l0.length : Int) = (l1.length : Int) then (batonref08_Ints.l0 k l0 l1 0) else (some false)
theorem batonref08_Ints.mono_l : ∀ k, (∀ y0 y1 y2, LeO (batonref08_Ints.l0 k y0 y1 y2) (batonref08_Ints.l0 (k + 1) y0 y1 y2))
  | 0 => fun _ _ _ r h => by simp [batonref08_Ints.l0] at h
  | k + 1 => by
    have ih0 := batonref08_Ints.mono_l k
    · intro y0 y1 y2
      unfold batonref08_Ints.l0
      exact My.mono_
theorem batonref08_Ints.mono : ∀ a0 a1 k, LeO (batonref08_Ints.f k a0 a1) (batonref08_Ints.f (k + 1) a0 a1) := by
  intro a0 a1 k
  have ih0 := batonref08_Ints.mono_l k
  unfold batonref08_Ints.f
  exact My.mono_
set_option maxHeartbeats 80000000 in
set_option maxRecDepth 100000 in
theorem batonref08_Ints.calls (k : Nat) (A0 : Option Addr) (c0 : Nat) (l0 : List Int) (A1 : Option Addr) (c1 : Nat) (l1 : List Int) (r : Bool) (w : World) (hr0 : Kd.C (Kd.int .i64) w A0 l0.length l0) (hc0 : l0.length ≤ c0) (hr1 : Kd.C (Kd.int .i64) w A1 l1.length l1) (hc1 : l1.length ≤ c1) (h : batonref08_Ints.f k l0 l1 = some r) :
    Calls Try.prog 15 #[.slice A0 l0.length c0, .slice A1 l1.length c1] w fun e w' => e = .returned (.bool r) ∧ Drawn0 w w' := by
  have HR0 := Aside0.mk hr0; have HC0 := Aside0.mk hc0; clear hr0 hc0; have HR1 := Aside0.mk hr1; have HC1 := Aside0.mk hc1; clear hr1 hc1; have H : (if (l0.length : Int) = (l1.length : Int) then (batonref08_Ints.l0 k l0 l1 0) else (some false)) = some r := h; clear h
  by_cases c3 : (l0.length : Int) = (l1.length : Int)
  · rw [if_pos c3] at H
    have c3b0 : ((l0.length : Int) == (l1.length : Int)) = true := beq_iff_eq.mpr c3; have c3b1 : ((l0.length : Int) != (l1.length : Int)) = false := bne_eq_false_iff_eq.mpr c3; (have c3b2 : (l0.length == l1.length) = true := by first | simpa using c3 | (simp at c3 ⊢; omega)); clear c3; have H' := Aside0.mk H; clear H
    go_enter Try.func15, Try.ntmps15
    go_wp2
    repeat (go_quiet (fail); try go_wp2)
    go_loopg [5] k (fun kq v5 w' => ∃ (x5_1 : Int), v5 = .int .i64 x5_1 ∧ Aside0 (batonref08_Ints.l0 kq l0 l1 x5_1 = some r) ∧ Aside0 (kq ≤ k) ∧ Drawn0 w w')
    case atStart => exact ⟨(0), My.q0, H', ⟨Nat.le_refl _⟩, My.dD⟩
    case round =>
      clear H'; (try clear c1); (try clear p2); (try clear c3); (try clear c3b0); (try clear c3b1); (try clear c3b2); obtain ⟨x5_1, rfl, HA, HK1, ⟨m1, rfl⟩⟩ := hrel
      cases gk with
      | zero => exact absurd HA.out (by simp [batonref08_Ints.l0])
      | succ k1 =>
        have H := HA.out; clear HA; simp only [batonref08_Ints.l0] at H
        by_cases c4 : x5_1 < (l0.length : Int)
        · rw [if_pos c4] at H
          have c4b0 := decide_eq_true c4; clear c4
          by_cases c5 : 0 ≤ x5_1
          · rw [if_pos c5] at H
            have c5b0 := decide_eq_true c5; clear c5
            by_cases c6 : x5_1 < (l1.length : Int)
            · rw [if_pos c6] at H
              have c6b0 := decide_eq_true c6; clear c6
              by_cases c7 : (rd l0 x5_1) = (rd l1 x5_1)
              · rw [if_pos c7] at H
                have c7b0 : ((rd l0 x5_1) == (rd l1 x5_1)) = true := beq_iff_eq.mpr c7; have c7b1 : ((rd l0 x5_1) != (rd l1 x5_1)) = false := bne_eq_false_iff_eq.mpr c7; clear c7; have H' := Aside0.mk H; clear H; have p183 : 0 ≤ (x5_1 : Int) := of_decide_eq_true My.as; have q183 : x5_1 < (l0.length : Int) := of_decide_eq_true My.as; obtain ⟨ad183, e183, hx183_0⟩ := Kd.at_int HR0.out x5_1 p183 q183; cases e183; replace p183 := eq_true p183; replace q183 := eq_true q183; have p184 : 0 ≤ (x5_1 : Int) := of_decide_eq_true My.as; have q184 : x5_1 < (l1.length : Int) := of_decide_eq_true My.as; obtain ⟨ad184, e184, hx184_0⟩ := Kd.at_int HR1.out x5_1 p184 q184; cases e184; replace p184 := eq_true p184; replace q184 := eq_true q184
                go_wp2
                repeat (go_quiet (fail); try go_wp2)
                go_roundg k1
                case measure => have := HK1.out; omega
                case rel => exact ⟨(wrap64 (x5_1 + 1)), My.q0, H', ⟨by have := HK1.out; omega⟩, My.dD⟩
              · rw [if_neg c7] at H
                have c7b0 : ((rd l0 x5_1) == (rd l1 x5_1)) = false := beq_eq_false_iff_ne.mpr c7; have c7b1 : ((rd l0 x5_1) != (rd l1 x5_1)) = true := bne_iff_ne.mpr c7; obtain rfl := Option.some.inj H; have p183 : 0 ≤ (x5_1 : Int) := of_decide_eq_true My.as; have q183 : x5_1 < (l0.length : Int) := of_decide_eq_true My.as; obtain ⟨ad183, e183, hx183_0⟩ := Kd.at_int HR0.out x5_1 p183 q183; cases e183; replace p183 := eq_true p183; replace q183 := eq_true q183; have p184 : 0 ≤ (x5_1 : Int) := of_decide_eq_true My.as; have q184 : x5_1 < (l1.length : Int) := of_decide_eq_true My.as; obtain ⟨ad184, e184, hx184_0⟩ := Kd.at_int HR1.out x5_1 p184 q184; cases e184; replace p184 := eq_true p184; replace q184 := eq_true q184
                go_wp2
                repeat (go_quiet (fail); try go_wp2)
                go_ret
                exact ⟨My.q0, My.dD⟩
            · exact My.no c6 H
          · exact My.no c5 H
        · rw [if_neg c4] at H
          have c4b0 := decide_eq_false c4; clear c4; obtain rfl := Option.some.inj H
          go_wp2
          repeat (go_quiet (fail); try go_wp2)
          go_ret
          exact ⟨My.q0, My.dD⟩
  · rw [if_neg c3] at H
    have c3b0 : ((l0.length : Int) == (l1.length : Int)) = false := beq_eq_false_iff_ne.mpr c3; have c3b1 : ((l0.length : Int) != (l1.length : Int)) = true := bne_iff_ne.mpr c3; (have c3b2 : (l0.length == l1.length) = false := by first | simpa using c3 | (simp at c3 ⊢; omega)); obtain rfl := Option.some.inj H
    go_enter Try.func15, Try.ntmps15
    go_wp2
    repeat (go_quiet (fail); try go_wp2)
    go_ret
    exact ⟨My.q0, My.dD⟩

/-! ### elect_Terms_1: function 37 -/
def elect_Terms_1.f (a0_0 : ByteArray) (a0_1 : ByteArray) (a0_2 : Int) (a0_3 : Int) (a0_4 : Int) (a0_5 : Int) (a1_0 : ByteArray) (a1_1 : ByteArray) (a1_2 : Int) (a1_3 : Int) (a1_4 : Int) (a1_5 : Int) : Option (Bool) := some (a0_2 == a1_2)
set_option maxHeartbeats 80000000 in
set_option maxRecDepth 100000 in
theorem elect_Terms_1.calls (a0_0 : ByteArray) (a0_1 : ByteArray) (a0_2 : Int) (a0_3 : Int) (a0_4 : Int) (a0_5 : Int) (a1_0 : ByteArray) (a1_1 : ByteArray) (a1_2 : Int) (a1_3 : Int) (a1_4 : Int) (a1_5 : Int) (r : Bool) (w : World) (h : elect_Terms_1.f a0_0 a0_1 a0_2 a0_3 a0_4 a0_5 a1_0 a1_1 a1_2 a1_3 a1_4 a1_5 = some r) :
    Calls Try.prog 37 #[.agg #[.string a0_0, .string a0_1, .int .i64 a0_2, .int .i64 a0_3, .int .i64 a0_4, .int .i64 a0_5], .agg #[.string a1_0, .string a1_1, .int .i64 a1_2, .int .i64 a1_3, .int .i64 a1_4, .int .i64 a1_5]] w fun e w' => e = .returned (.bool r) ∧ Below w.heap.size w w' := by
  have hu26 := Try.underlying26; have HB := My.m (Below.refl w.heap.size w); have H := h; clear h; unfold elect_Terms_1.f at H; obtain rfl := Option.some.inj H
  go_enter Try.func37, Try.ntmps37
  go_wp2_with (first | ((with_reducible refine gate_dst (N := 2) rfl ?_); refine My.be 2 26 #[.string a0_0, .string a0_1, .int .i64 a0_2, .int .i64 a0_3, .int .i64 a0_4, .int .i64 a0_5] ?_; intro gb185 hg w3 hbox hb; have BK185 := My.m hbox; have GW185 := My.m ((My.nw w hg My.bB)); have GE185 := My.m ((My.nw w hg My.bB)); replace HB := My.m (below_step My.bB hb); clear hb hbox hg) | ((with_reducible refine gate_dst (N := 3) rfl ?_); refine My.be 3 26 #[.string a1_0, .string a1_1, .int .i64 a1_2, .int .i64 a1_3, .int .i64 a1_4, .int .i64 a1_5] ?_; intro gb186 hg w4 hbox hb; have BK186 := My.m hbox; have GW186 := My.m ((My.nw w hg My.bA)); have GE186 := My.m ((My.nw w hg My.bA)); replace HB := My.m (below_step My.bA hb); have NB185_186 := My.m ((My.nl hg BK185)); have NB186_185 := My.m ((My.nr hg BK185)); replace BK185 := My.m (My.kb BK185.out hb); clear hb hbox hg; have hnb5 := NB185_186.out; have hnc5 := NB186_185.out; obtain ⟨_, _, _, _, _, _⟩ := My.qc6 BK185.out; obtain ⟨_, _, _, _, _, _⟩ := My.qf6 BK185.out; obtain ⟨_, _, _, _, _, _⟩ := My.qc6 BK186.out; obtain ⟨_, _, _, _, _, _⟩ := My.qf6 BK186.out))
  go_ret
  exact ⟨My.q1, My.bA⟩

/-! ### api_KV_35: function 35 -/
mutual
def api_KV_35.l0 : Nat → List (S26) → Int → Option ((List (S26)))
 | 0, _, _ => none
 | k + 1, x0, x5 => if x5 < (x0.length : Int) then (if 0 ≤ x5 then (if 0 ≤ (wrap64 (x5 - 1)) then (if (wrap64 (x5 - 1)) < (x0.length : Int) then ((elect_Terms_1.f ((rd_T26 x0 x5).f0) ((rd_T26 x0 x5).f1) ((rd_T26 x0 x5).f2) ((rd_T26 x0 x5).f3) ((rd_T26 x0 x5).f4) ((rd_T26 x0 x5).f5) ((rd_T26 x0 (wrap64 (x5 - 1))).f0) ((rd_T26 x0 (wrap64 (x5 - 1))).f1) ((rd_T26 x0 (wrap64 (x5 - 1))).f2) ((rd_T26 x0 (wrap64 (x5 - 1))).f3) ((rd_T26 x0 (wrap64 (x5 - 1))).f4) ((rd_T26 x0 (wrap64 (x5 - 1))).f5)).bind fun t189 => (if t189 = true then (if x5 ≤ (x0.length : Int) then (api_KV_35.l1 k x0 x5 (x0.drop (x5 : Int).toNat) 1) else (none)) else (api_KV_35.l0 k x0 (wrap64 (x5 + 1))))) else (none)) else (none)) else (none)) else (some x0)
def api_KV_35.l1 : Nat → List (S26) → Int → List (S26) → Int → Option ((List (S26)))
 | 0, _, _, _, _ => none
 | k + 1, x0, x5, x6, x7 => if x7 < (x6.length : Int) then (if 0 ≤ x7 then (if 0 ≤ (wrap64 (x7 - 1)) then (if (wrap64 (x7 - 1)) < (x6.length : Int) then ((elect_Terms_1.f ((rd_T26 x6 x7).f0) ((rd_T26 x6 x7).f1) ((rd_T26 x6 x7).f2) ((rd_T26 x6 x7).f3) ((rd_T26 x6 x7).f4) ((rd_T26 x6 x7).f5) ((rd_T26 x6 (wrap64 (x7 - 1))).f0) ((rd_T26 x6 (wrap64 (x7 - 1))).f1) ((rd_T26 x6 (wrap64 (x7 - 1))).f2) ((rd_T26 x6 (wrap64 (x7 - 1))).f3) ((rd_T26 x6 (wrap64 (x7 - 1))).f4) ((rd_T26 x6 (wrap64 (x7 - 1))).f5)).bind fun t196 => (if t196 = true then (api_KV_35.l1 k x0 x5 x6 (wrap64 (x7 + 1))) else (if 0 ≤ x5 then (if x5 < (x0.length : Int) then (api_KV_35.l1 k (x0.set (x5 : Int).toNat (⟨(rd_T26 x6 x7).f0, (rd_T26 x6 x7).f1, (rd_T26 x6 x7).f2, (rd_T26 x6 x7).f3, (rd_T26 x6 x7).f4, (rd_T26 x6 x7).f5⟩ : S26)) (wrap64 (x5 + 1)) x6 (wrap64 (x7 + 1))) else (none)) else (none)))) else (none)) else (none)) else (none)) else (if 0 ≤ x5 then (if x5 ≤ (x0.length : Int) then (some (x0.take (x5 : Int).toNat)) else (none)) else (none))
end
def api_KV_35.f (k : Nat) (l0 : List (S26)) (a1 : Unit) : Option ((List (S26))) := if (l0.length : Int) < 2 then (some l0) else (api_KV_35.l0 k l0 1)
theorem api_KV_35.mono_l : ∀ k, (∀ y0 y1, LeO (api_KV_35.l0 k y0 y1) (api_KV_35.l0 (k + 1) y0 y1)) ∧ (∀ y0 y1 y2 y3, LeO (api_KV_35.l1 k y0 y1 y2 y3) (api_KV_35.l1 (k + 1) y0 y1 y2 y3))
 | 0 => ⟨fun _ _ r h => by simp [api_KV_35.l0] at h, fun _ _ _ _ r h => by simp [api_KV_35.l1] at h⟩
 | k + 1 => by
  obtain ⟨ih0, ih1⟩ := api_KV_35.mono_l k
  refine ⟨?_, ?_⟩
  ·intro y0 y1
   unfold api_KV_35.l0
   exact My.mono_
  ·intro y0 y1 y2 y3
   unfold api_KV_35.l1
   exact My.mono_
theorem api_KV_35.mono : ∀ a0 a1 k, LeO (api_KV_35.f k a0 a1) (api_KV_35.f (k + 1) a0 a1) := by
 intro a0 a1 k
 obtain ⟨ih0, ih1⟩ := api_KV_35.mono_l k
 unfold api_KV_35.f
 exact My.mono_
def api_KV_35.T6 : Bool × List (List Nat × List Nat) := (true, [([], []), ([], []), ([], []), ([1, 2], [1, 2]), ([3], [3]), ([], []), ([], []), ([6], [6]), ([5, 7], [5, 7]), ([8], [8]), ([0, 4, 9], [0, 4, 9])])
def api_KV_35.B6 : List Nat := [0, 0, 0, 6, 14, 0, 0, 64, 224, 480, 1023]
theorem api_KV_35.tab6 : rtab .any (opsOf Try.f35 6) = api_KV_35.T6 := by kernel_rfl
theorem api_KV_35.bits6 : waitsOk api_KV_35.T6.2 api_KV_35.B6 = true := by kernel_rfl
def api_KV_35.T11 : Bool × List (List Nat × List Nat) := (true, [([], []), ([], []), ([], []), ([1, 2], [1, 2]), ([3], [3]), ([], []), ([], []), ([6], [6]), ([5, 7], [5, 7]), ([8], [8]), ([0, 4, 9], [0, 4, 9]), ([10], [10])])
def api_KV_35.B11 : List Nat := [0, 0, 0, 6, 14, 0, 0, 64, 224, 480, 1023, 2047]
theorem api_KV_35.tab11 : rtab .any (opsOf Try.f35 11) = api_KV_35.T11 := by kernel_rfl
theorem api_KV_35.bits11 : waitsOk api_KV_35.T11.2 api_KV_35.B11 = true := by kernel_rfl
set_option maxHeartbeats 80000000 in
set_option maxRecDepth 100000 in
-- IMPORT YtaebmmjhokjdbaaClear
theorem api_KV_35.calls (k : Nat) (P0_ : Nat → Prop) (u9000_ : Value) (l0 : List (S26)) (a1 : Unit) (r : List (S26)) (w0 w : World) (hB : Below w0.heap.size w0 w) (ho0 : Kd.R k26 26 w w0.heap.size P0_ u9000_ l0) (h : api_KV_35.f k l0 a1 = some r) :
  Calls Try.prog 35 #[u9000_, .func (.func 37) #[] #[]] w fun e w' => ∃ v0_ : Value, e = .returned (v0_) ∧ Kd.R k26 26 w' w0.heap.size (fun k_ => (P0_ k_ ∨ w.heap.size ≤ k_)) v0_ r ∧ Below w0.heap.size w0 w' ∧ Kept w w' (fun k_ => P0_ k_) := by
 have hu26 := Try.underlying26; have HO0 := My.m (show Kd.R k26 26 w w0.heap.size (fun k_ => (P0_ k_ ∨ w.heap.size ≤ k_)) u9000_ l0 from Kd.R_mono ho0 (fun k_ hk => (.inl hk))); have HK := My.m (Kept.refl w (fun k_ => P0_ k_)); have HW0 := Aside0.mk hB.size; have HB := Aside0.mk hB; clear hB; have H : (if (l0.length : Int) < 2 then (some l0) else (api_KV_35.l0 k l0 1)) = some r := h; clear h
 by_cases c3 : (l0.length : Int) < 2
 ·rw [if_pos c3] at H
  have c3b0 := decide_eq_true c3; have c3b1 : decide (l0.length < 2) = true := decide_eq_true (by omega); clear c3; obtain rfl := Option.some.inj H; obtain ⟨Ao4, co4, eo4⟩ := Kd.R_slice HO0.out; subst eo4
  go_enter Try.func35, Try.ntmps35
  go_wp2
  go_ret
  exact ⟨_, My.q1, My.Ra HO0.out, My.bB, My.kK⟩
 ·rw [if_neg c3] at H
  have c3b0 := decide_eq_false c3; have c3b1 : decide (l0.length < 2) = false := decide_eq_false (by omega); clear c3; have H' := Aside0.mk H; clear H; obtain ⟨Ao5, co5, eo5⟩ := Kd.R_slice HO0.out; subst eo5
  go_enter Try.func35, Try.ntmps35
  go_wp2
  go_loopg [5] k (fun kq v5 w' => ∃ (x0_1 : List (S26)) (x5_1 : Int), v5 = .int .i64 x5_1 ∧ Aside0 (api_KV_35.l0 kq x0_1 x5_1 = some r) ∧ Aside0 (kq ≤ k) ∧ Aside0 (Kd.R k26 26 w' w0.heap.size (fun k_ => (P0_ k_ ∨ w.heap.size ≤ k_)) (.slice Ao5 l0.length co5) x0_1) ∧ Aside0 (Kept w w' (fun k_ => P0_ k_)) ∧ Aside0 (Below w0.heap.size w0 w'))
  case atStart => exact ⟨(l0), (1), My.q0, H', ⟨Nat.le_refl _⟩, ⟨My.Ra HO0.out⟩, ⟨My.kK⟩, ⟨My.bB⟩⟩
  case round =>
   clear H'; (try clear p2); (try clear c3); (try clear c3b0); (try clear c3b1); obtain ⟨x0_1, x5_1, rfl, HA, HK1, HO_0, HK, HB⟩ := hrel; have hl0_1 := (Kd.R_reads' HO_0.out).1; rw [hl0_1] at HO_0; (try simp only [hl0_1])
   cases gk with
   | zero => exact absurd HA.out (by simp [api_KV_35.l0])
   | succ k1 =>
    have H := HA.out; clear HA; simp only [api_KV_35.l0] at H
    by_cases c6 : x5_1 < (x0_1.length : Int)
    ·rw [if_pos c6] at H
     have c6b0 := decide_eq_true c6; clear c6
     by_cases c7 : 0 ≤ x5_1
     ·rw [if_pos c7] at H
      have c7b0 := decide_eq_true c7; clear c7; obtain ⟨ji8, hji8⟩ : ∃ j_ : Int, (wrap64 (x5_1 - 1)) = j_ := ⟨_, rfl⟩; (replace H : (if 0 ≤ (ji8) then (if (ji8) < (x0_1.length : Int) then ((elect_Terms_1.f ((rd_T26 x0_1 x5_1).f0) ((rd_T26 x0_1 x5_1).f1) ((rd_T26 x0_1 x5_1).f2) ((rd_T26 x0_1 x5_1).f3) ((rd_T26 x0_1 x5_1).f4) ((rd_T26 x0_1 x5_1).f5) ((rd_T26 x0_1 (ji8)).f0) ((rd_T26 x0_1 (ji8)).f1) ((rd_T26 x0_1 (ji8)).f2) ((rd_T26 x0_1 (ji8)).f3) ((rd_T26 x0_1 (ji8)).f4) ((rd_T26 x0_1 (ji8)).f5)).bind fun t189 => (if t189 = true then (if x5_1 ≤ (x0_1.length : Int) then (api_KV_35.l1 k1 x0_1 x5_1 (x0_1.drop (x5_1 : Int).toNat) 1) else (none)) else (api_KV_35.l0 k1 x0_1 (wrap64 (x5_1 + 1))))) else (none)) else (none)) = some r := by first | (rw [hji8] at H; exact H) | (simp only [hji8] at H ⊢; exact H)); have hji8w : (IntKind.i64.wrap (x5_1 - 1)) = ji8 := (i64_w _).trans hji8
      by_cases c9 : 0 ≤ (ji8)
      ·rw [if_pos c9] at H
       have c9b0 := decide_eq_true c9; clear c9
       by_cases c10 : (ji8) < (x0_1.length : Int)
       ·rw [if_pos c10] at H
        have c10b0 := decide_eq_true c10; clear c10; replace H := Option.bind_eq_some_iff.mp H; obtain ⟨t189, A110, H⟩ := H; have A11 := Aside0.mk A110; clear A110
        by_cases c12 : t189 = true
        ·subst c12
         rw [if_pos rfl] at H; have c13b0 := eq_true (of_decide_eq_true My.as : 0 ≤ x5_1)
         by_cases c14 : x5_1 ≤ (x0_1.length : Int)
         ·rw [if_pos c14] at H
          have c14b0 := eq_true c14; have c14b1 : decide (x5_1 ≤ (x0_1.length : Int)) = true := decide_eq_true c14; clear c14; obtain ⟨y190, hy190⟩ : ∃ y_ : List (S26), y_ = (x0_1.drop (x5_1 : Int).toNat) := ⟨_, rfl⟩; (replace H : (api_KV_35.l1 k1 x0_1 x5_1 y190 1) = some r := by first | (rw [hy190]; with_reducible exact H) | (have H2_ := (Option.bind_some _ _).symm.trans H; rw [hy190]; with_reducible exact H2_) | (have H2_ := (Option.bind_some _ _).symm.trans H; with_reducible exact H2_) | with_reducible exact H | (rw [hy190]; exact H) | exact H); have Ny190 := Aside0.mk hy190; clear hy190; have H' := Aside0.mk H; clear H; (try go_wp2); replace HO_0 := My.m (Kd.R_drew HO_0.out); replace HK := My.m (Kept.drew HK.out); replace HB := My.m (below_drew1 HB.out); have p187 : 0 ≤ (x5_1 : Int) := of_decide_eq_true My.as; have q187 : x5_1 < (x0_1.length : Int) := of_decide_eq_true My.as; obtain ⟨ad187, e187, hx187_0, hx187_1, hx187_2, hx187_3, hx187_4, hx187_5⟩ := at_T26 (Kd.R_reads' HO_0.out).2.2 x5_1 p187 q187; cases e187; replace p187 := eq_true p187; replace q187 := eq_true q187; have p188 : 0 ≤ ((ji8) : Int) := of_decide_eq_true My.as; have q188 : (ji8) < (x0_1.length : Int) := of_decide_eq_true My.as; obtain ⟨ad188, e188, hx188_0, hx188_1, hx188_2, hx188_3, hx188_4, hx188_5⟩ := at_T26 (Kd.R_reads' HO_0.out).2.2 (ji8) p188 q188; obtain rfl : ad187 = ad188 := (by injection e188); replace p188 := eq_true p188; replace q188 := eq_true q188; refine start_ (n := 11) (S := fun w' => cT26 w' (ad187.add ((x5_1).toNat * 6)) (rd_T26 x0_1 x5_1) (eT26 w' (ad187.add (((ji8)).toNat * 6)) (rd_T26 x0_1 (ji8)))) (ds := []) (My.bl 11 0) (by kernel_rfl) rfl (by kernel_rfl) ⟨hx187_0, hx187_1, hx187_2, hx187_3, hx187_4, hx187_5, hx188_0, hx188_1, hx188_2, hx188_3, hx188_4, hx188_5⟩ (fun hHeld => ?_); refine with_tabW api_KV_35.tab6 api_KV_35.bits6 (fun HT_ HW_ => ?_); generalize wr.drew = w15 at HO_0 HK HB hx187_0 hx187_1 hx187_2 hx187_3 hx187_4 hx187_5 hx188_0 hx188_1 hx188_2 hx188_3 hx188_4 hx188_5 hHeld ⊢; refine My.pu 0 18 1 HT_ ?_; refine My.pu 1 19 3 HT_ ?_; refine My.pu 2 20 7 HT_ ?_; refine My.pu 3 21 15 HT_ ?_; refine My.pu 5 23 47 HT_ ?_; refine My.pu 6 24 111 HT_ ?_; refine My.pu 7 25 239 HT_ ?_; refine My.pu 8 26 495 HT_ ?_; refine My.tk 4 22 511 HT_ HW_ hHeld ?_; refine My.tk 9 27 1023 HT_ HW_ hHeld ?_; refine one_ (i := 10) (N := some 28) (My.bl 11 2047) rfl rfl (one_of HT_.out (by kernel_rfl)) (by decide) (fun K hK => ?_); refine My.goesD_ (cap := #[]) Try.func37 (by kernel_rfl) rfl #[.agg #[.string ((rd_T26 x0_1 x5_1).f0), .string ((rd_T26 x0_1 x5_1).f1), .int .i64 ((rd_T26 x0_1 x5_1).f2), .int .i64 ((rd_T26 x0_1 x5_1).f3), .int .i64 ((rd_T26 x0_1 x5_1).f4), .int .i64 ((rd_T26 x0_1 x5_1).f5)], .agg #[.string ((rd_T26 x0_1 (ji8)).f0), .string ((rd_T26 x0_1 (ji8)).f1), .int .i64 ((rd_T26 x0_1 (ji8)).f2), .int .i64 ((rd_T26 x0_1 (ji8)).f3), .int .i64 ((rd_T26 x0_1 (ji8)).f4), .int .i64 ((rd_T26 x0_1 (ji8)).f5)]] (by rfl) rfl rfl rfl (by first | rfl | (try simp only [List.map_toArray, List.map_cons, List.map_nil]); first | done | (simp only [hji8]; rfl) | rfl | (simp only [List.length_drop, List.length_take]; rfl)) ?_; (with_reducible refine (elect_Terms_1.calls ((rd_T26 x0_1 x5_1).f0) ((rd_T26 x0_1 x5_1).f1) ((rd_T26 x0_1 x5_1).f2) ((rd_T26 x0_1 x5_1).f3) ((rd_T26 x0_1 x5_1).f4) ((rd_T26 x0_1 x5_1).f5) ((rd_T26 x0_1 (ji8)).f0) ((rd_T26 x0_1 (ji8)).f1) ((rd_T26 x0_1 (ji8)).f2) ((rd_T26 x0_1 (ji8)).f3) ((rd_T26 x0_1 (ji8)).f4) ((rd_T26 x0_1 (ji8)).f5) true _ A11.out).mono ?_); rintro e w16 ⟨rfl, hb⟩; have HS0_ := (hb.cell (World.block_lt_of_cell? _ _ (hHeld.1))).trans (hHeld.1); have HS1_ := (hb.cell (World.block_lt_of_cell? _ _ (hHeld.2.1))).trans (hHeld.2.1); have HS2_ := (hb.cell (World.block_lt_of_cell? _ _ (hHeld.2.2.1))).trans (hHeld.2.2.1); have HS3_ := (hb.cell (World.block_lt_of_cell? _ _ (hHeld.2.2.2.1))).trans (hHeld.2.2.2.1); have HS4_ := (hb.cell (World.block_lt_of_cell? _ _ (hHeld.2.2.2.2.1))).trans (hHeld.2.2.2.2.1); have HS5_ := (hb.cell (World.block_lt_of_cell? _ _ (hHeld.2.2.2.2.2.1))).trans (hHeld.2.2.2.2.2.1); have HS6_ := (hb.cell (World.block_lt_of_cell? _ _ (hHeld.2.2.2.2.2.2.1))).trans (hHeld.2.2.2.2.2.2.1); have HS7_ := (hb.cell (World.block_lt_of_cell? _ _ (hHeld.2.2.2.2.2.2.2.1))).trans (hHeld.2.2.2.2.2.2.2.1); have HS8_ := (hb.cell (World.block_lt_of_cell? _ _ (hHeld.2.2.2.2.2.2.2.2.1))).trans (hHeld.2.2.2.2.2.2.2.2.1); have HS9_ := (hb.cell (World.block_lt_of_cell? _ _ (hHeld.2.2.2.2.2.2.2.2.2.1))).trans (hHeld.2.2.2.2.2.2.2.2.2.1); have HS10_ := (hb.cell (World.block_lt_of_cell? _ _ (hHeld.2.2.2.2.2.2.2.2.2.2.1))).trans (hHeld.2.2.2.2.2.2.2.2.2.2.1); have HS11_ := (hb.cell (World.block_lt_of_cell? _ _ (hHeld.2.2.2.2.2.2.2.2.2.2.2))).trans (hHeld.2.2.2.2.2.2.2.2.2.2.2); refine ⟨_, rfl, ?_⟩; replace HO_0 := My.m (Kd.R_below (My.Ra HO_0.out) hb); replace HK := My.m (Kept.below (S := (fun k_ => P0_ k_)) My.kK hb); replace HB := My.m (below_step My.bB hb); refine hK.out _ _ ⟨HS0_, HS1_, HS2_, HS3_, HS4_, HS5_, HS6_, HS7_, HS8_, HS9_, HS10_, HS11_⟩ (fun hHeld => ?_); clear hK K; refine norm_ (a' := ?_) ?_ ?_; rotate_left
          ·show Act.put _ (some 28) _ = _
           simp only [Act.put, List.setIfInBounds_toArray, List.set_cons_zero, List.set_cons_succ, i64_w, i32_w]; rfl
          refine done_ (done_of HT_.out (by kernel_rfl)) ?_; have q17 : (x5_1 : Int) ≤ ((x0_1.length : Int) : Int) := of_decide_eq_true My.as; obtain ⟨i017, hi017, _, hsz17, _⟩ := info_parts info26; have hroom17 : x0_1.length ≤ co5 := (Kd.R_reads' HO_0.out).2.1; have hC17 : Kd.C k26 _ (some ad187) x0_1.length x0_1 := (Kd.R_reads' HO_0.out).2.2; have q017 : (0 : Int) ≤ (x5_1 : Int) := of_decide_eq_true My.as; have hcut17 := cut_from (P := Try.prog) 22 26 .i64 Try.underlying22 hi017 6 hsz17 (some ad187) x0_1.length co5 x5_1 q017 q17; have hr17 := Kd.C_drop (m := (x5_1 : Int).toNat) (c := co5) hC17 (by omega) hroom17; obtain ⟨A17, hA17⟩ : ∃ A1, A1 = (if co5 = (x5_1 : Int).toNat then (some ad187) else ((some ad187) : Option Addr).map (·.add ((x5_1 : Int).toNat * 6))) := ⟨_, rfl⟩; obtain ⟨c17, hc17⟩ : ∃ c1, c1 = co5 - (x5_1 : Int).toNat := ⟨_, rfl⟩; have hy17 : y190.length = x0_1.length - (x5_1 : Int).toNat := (by rw [Ny190.out, List.length_drop] <;> omega); rw [show (x0_1).drop (x5_1 : Int).toNat = y190 from Ny190.out.symm] at hr17; replace hr17 : Kd.C k26 _ A17 y190.length y190 := (by rw [hA17]; exact hr17); rw [← hy17, ← hA17, ← hc17] at hcut17; have HR193 := Aside0.mk hr17; have HC193 := My.m (show y190.length ≤ c17 from by rw [hy17, hc17]; exact Nat.sub_le_sub_right hroom17 _); clear hr17 hC17 hroom17 hi017 hsz17 hc17; have KY17 := Aside0.mk hy17; have KA17 := Aside0.mk hA17; clear hy17 hA17; have KL17 := My.m (show (x5_1 : Int).toNat ≤ x0_1.length from by omega); replace q17 := eq_true q17; have HX5 := My.m (show 0 ≤ x5_1 ∧ x5_1 < (x0_1.length : Int) from ⟨of_eq_true c13b0, of_eq_true q187⟩); obtain ⟨gy, cy, ey, gby, gly, cly, HGy⟩ := Kd.R_form HO_0.out (by have := HX5.out; omega); (first | cases ey | (injection ey with ea_ en_ ec_; (first | subst ea_ | (injection ea_ with ea_; subst ea_)); subst ec_; clear en_)); clear gby gly cly HGy; (try simp only [add_plain]); (try go_wp2)
          go_loopg [5, 7] k1 (fun kq v5 v7 w' => ∃ (x0_2 : List (S26)) (x5_2 : Int) (x7_2 : Int), v5 = .int .i64 x5_2 ∧ v7 = .int .i64 x7_2 ∧ Aside0 (api_KV_35.l1 kq x0_2 x5_2 y190 x7_2 = some r) ∧ Aside0 (kq ≤ k1) ∧ Aside0 (Clr.INV x5_1 y190 x0_2 x5_2 x7_2) ∧ Aside0 (Kd.R k26 26 w' w0.heap.size (fun k_ => (P0_ k_ ∨ w.heap.size ≤ k_)) (.slice (some (⟨gy, 0, none⟩ : Addr)) x0_1.length co5) x0_2) ∧ Aside0 (Kept w w' (fun k_ => P0_ k_)) ∧ Aside0 (Below w0.heap.size w0 w'))
          case atStart => exact ⟨(x0_1), (x5_1), (1), My.q0, My.q0, H', ⟨Nat.le_refl _⟩, ⟨Clr.inv0 Ny190.out⟩, ⟨by (try simp only [hl0_1]); (with_reducible repeat (first | apply Kd.R_alloc | apply Kd.R_drewN | apply Kd.R_drew)); exact HO_0.out⟩, ⟨My.kK⟩, ⟨My.bB⟩⟩
          case round =>
           clear H'; (try clear c1); (try clear p1); (try clear q1); (try clear hx1); (try clear p2); (try clear c3); (try clear c3b0); (try clear c3b1); (try clear c6); (try clear c6b0); (try clear p6); (try clear c7); (try clear c7b0); (try clear c9); (try clear c9b0); (try clear c10); (try clear c10b0); (try clear c12); (try clear c13); (try clear c13b0); (try clear c14); (try clear c14b0); (try clear c14b1); (try clear c17); (try clear q17); (try clear hx187_0); (try clear hx187_1); (try clear hx187_2); (try clear hx187_3); (try clear hx187_4); (try clear hx187_5); (try clear hx188_0); (try clear hx188_1); (try clear hx188_2); (try clear hx188_3); (try clear hx188_4); (try clear hx188_5); (try clear p187); (try clear p188); (try clear p2); (try clear q017); (try clear q17); (try clear q187); (try clear q188); obtain ⟨x0_2, x5_2, x7_2, rfl, rfl, HA, HK2, HI, HO_0, HK, HB⟩ := hrel; have hl0_2 := (Kd.R_reads' HO_0.out).1; rw [hl0_2] at HO_0; (try simp only [hl0_2])
           cases gk with
           | zero => exact absurd HA.out (by simp [api_KV_35.l1])
           | succ k2 =>
            have H := HA.out; clear HA; simp only [api_KV_35.l1] at H
            by_cases c18 : x7_2 < (y190.length : Int)
            ·rw [if_pos c18] at H
             have QX := Aside0.mk c18; have c18b0 := decide_eq_true c18; clear c18
             by_cases c19 : 0 ≤ x7_2
             ·rw [if_pos c19] at H
              have c19b0 := decide_eq_true c19; clear c19; obtain ⟨ji20, hji20⟩ : ∃ j_ : Int, (wrap64 (x7_2 - 1)) = j_ := ⟨_, rfl⟩; (replace H : (if 0 ≤ (ji20) then (if (ji20) < (y190.length : Int) then ((elect_Terms_1.f ((rd_T26 y190 x7_2).f0) ((rd_T26 y190 x7_2).f1) ((rd_T26 y190 x7_2).f2) ((rd_T26 y190 x7_2).f3) ((rd_T26 y190 x7_2).f4) ((rd_T26 y190 x7_2).f5) ((rd_T26 y190 (ji20)).f0) ((rd_T26 y190 (ji20)).f1) ((rd_T26 y190 (ji20)).f2) ((rd_T26 y190 (ji20)).f3) ((rd_T26 y190 (ji20)).f4) ((rd_T26 y190 (ji20)).f5)).bind fun t196 => (if t196 = true then (api_KV_35.l1 k2 x0_2 x5_2 y190 (wrap64 (x7_2 + 1))) else (if 0 ≤ x5_2 then (if x5_2 < (x0_2.length : Int) then (api_KV_35.l1 k2 (x0_2.set (x5_2 : Int).toNat (⟨(rd_T26 y190 x7_2).f0, (rd_T26 y190 x7_2).f1, (rd_T26 y190 x7_2).f2, (rd_T26 y190 x7_2).f3, (rd_T26 y190 x7_2).f4, (rd_T26 y190 x7_2).f5⟩ : S26)) (wrap64 (x5_2 + 1)) y190 (wrap64 (x7_2 + 1))) else (none)) else (none)))) else (none)) else (none)) = some r := by first | (rw [hji20] at H; exact H) | (simp only [hji20] at H ⊢; exact H)); have hji20w : (IntKind.i64.wrap (x7_2 - 1)) = ji20 := (i64_w _).trans hji20
              by_cases c21 : 0 ≤ (ji20)
              ·rw [if_pos c21] at H
               have c21b0 := decide_eq_true c21; clear c21
               by_cases c22 : (ji20) < (y190.length : Int)
               ·rw [if_pos c22] at H
                have c22b0 := decide_eq_true c22; clear c22; replace H := Option.bind_eq_some_iff.mp H; obtain ⟨t196, A230, H⟩ := H; have A23 := Aside0.mk A230; clear A230
                by_cases c24 : t196 = true
                ·subst c24
                 rw [if_pos rfl] at H; have H' := Aside0.mk H; clear H; (try go_wp2); replace HO_0 := My.m (Kd.R_drew HO_0.out); replace HK := My.m (Kept.drew HK.out); replace HB := My.m (below_drew1 HB.out); have p194 : 0 ≤ (x7_2 : Int) := of_decide_eq_true My.as; have q194 : x7_2 < (y190.length : Int) := of_decide_eq_true My.as; obtain ⟨ad194, e194, hx194_0, hx194_1, hx194_2, hx194_3, hx194_4, hx194_5⟩ := Clr.at2 (Kd.R_reads' HO_0.out).2.2 (Kd.R_reads' HO_0.out).2.1 KA17.out (by have := KL17.out; omega) (by have := KY17.out; omega) HI.out x7_2 p194 q194 (by omega); cases e194; replace p194 := eq_true p194; replace q194 := eq_true q194; have p195 : 0 ≤ ((ji20) : Int) := of_decide_eq_true My.as; have q195 : (ji20) < (y190.length : Int) := of_decide_eq_true My.as; obtain ⟨ad195, e195, hx195_0, hx195_1, hx195_2, hx195_3, hx195_4, hx195_5⟩ := Clr.at2 (Kd.R_reads' HO_0.out).2.2 (Kd.R_reads' HO_0.out).2.1 KA17.out (by have := KL17.out; omega) (by have := KY17.out; omega) HI.out (ji20) p195 q195 (Clr.lo HI.out QX.out HR193.out.2.1 hji20); obtain rfl : ad194 = ad195 := (by injection e195); replace p195 := eq_true p195; replace q195 := eq_true q195; refine start_ (n := 12) (S := fun w' => cT26 w' (ad194.add ((x7_2).toNat * 6)) (rd_T26 y190 x7_2) (eT26 w' (ad194.add (((ji20)).toNat * 6)) (rd_T26 y190 (ji20)))) (ds := []) (My.bl 12 0) (by kernel_rfl) rfl (by kernel_rfl) ⟨hx194_0, hx194_1, hx194_2, hx194_3, hx194_4, hx194_5, hx195_0, hx195_1, hx195_2, hx195_3, hx195_4, hx195_5⟩ (fun hHeld => ?_); refine with_tabW api_KV_35.tab11 api_KV_35.bits11 (fun HT_ HW_ => ?_); generalize wr.drew = w25 at HO_0 HK HB hx194_0 hx194_1 hx194_2 hx194_3 hx194_4 hx194_5 hx195_0 hx195_1 hx195_2 hx195_3 hx195_4 hx195_5 hHeld ⊢; refine My.pu 0 38 1 HT_ ?_; refine My.pu 1 39 3 HT_ ?_; refine My.pu 2 40 7 HT_ ?_; refine My.pu 3 41 15 HT_ ?_; refine My.pu 5 43 47 HT_ ?_; refine My.pu 6 44 111 HT_ ?_; refine My.pu 7 45 239 HT_ ?_; refine My.pu 8 46 495 HT_ ?_; refine My.tk 4 42 511 HT_ HW_ hHeld ?_; refine My.tk 9 47 1023 HT_ HW_ hHeld ?_; refine one_ (i := 10) (N := some 48) (My.bl 12 2047) rfl rfl (one_of HT_.out (by kernel_rfl)) (by decide) (fun K hK => ?_); refine My.goesD_ (cap := #[]) Try.func37 (by kernel_rfl) rfl #[.agg #[.string ((rd_T26 y190 x7_2).f0), .string ((rd_T26 y190 x7_2).f1), .int .i64 ((rd_T26 y190 x7_2).f2), .int .i64 ((rd_T26 y190 x7_2).f3), .int .i64 ((rd_T26 y190 x7_2).f4), .int .i64 ((rd_T26 y190 x7_2).f5)], .agg #[.string ((rd_T26 y190 (ji20)).f0), .string ((rd_T26 y190 (ji20)).f1), .int .i64 ((rd_T26 y190 (ji20)).f2), .int .i64 ((rd_T26 y190 (ji20)).f3), .int .i64 ((rd_T26 y190 (ji20)).f4), .int .i64 ((rd_T26 y190 (ji20)).f5)]] (by rfl) rfl rfl rfl (by first | rfl | (try simp only [List.map_toArray, List.map_cons, List.map_nil]); first | done | (simp only [hji20]; rfl) | rfl | (simp only [List.length_drop, List.length_take]; rfl)) ?_; (with_reducible refine (elect_Terms_1.calls ((rd_T26 y190 x7_2).f0) ((rd_T26 y190 x7_2).f1) ((rd_T26 y190 x7_2).f2) ((rd_T26 y190 x7_2).f3) ((rd_T26 y190 x7_2).f4) ((rd_T26 y190 x7_2).f5) ((rd_T26 y190 (ji20)).f0) ((rd_T26 y190 (ji20)).f1) ((rd_T26 y190 (ji20)).f2) ((rd_T26 y190 (ji20)).f3) ((rd_T26 y190 (ji20)).f4) ((rd_T26 y190 (ji20)).f5) true _ A23.out).mono ?_); rintro e w26 ⟨rfl, hb⟩; have HS0_ := (hb.cell (World.block_lt_of_cell? _ _ (hHeld.1))).trans (hHeld.1); have HS1_ := (hb.cell (World.block_lt_of_cell? _ _ (hHeld.2.1))).trans (hHeld.2.1); have HS2_ := (hb.cell (World.block_lt_of_cell? _ _ (hHeld.2.2.1))).trans (hHeld.2.2.1); have HS3_ := (hb.cell (World.block_lt_of_cell? _ _ (hHeld.2.2.2.1))).trans (hHeld.2.2.2.1); have HS4_ := (hb.cell (World.block_lt_of_cell? _ _ (hHeld.2.2.2.2.1))).trans (hHeld.2.2.2.2.1); have HS5_ := (hb.cell (World.block_lt_of_cell? _ _ (hHeld.2.2.2.2.2.1))).trans (hHeld.2.2.2.2.2.1); have HS6_ := (hb.cell (World.block_lt_of_cell? _ _ (hHeld.2.2.2.2.2.2.1))).trans (hHeld.2.2.2.2.2.2.1); have HS7_ := (hb.cell (World.block_lt_of_cell? _ _ (hHeld.2.2.2.2.2.2.2.1))).trans (hHeld.2.2.2.2.2.2.2.1); have HS8_ := (hb.cell (World.block_lt_of_cell? _ _ (hHeld.2.2.2.2.2.2.2.2.1))).trans (hHeld.2.2.2.2.2.2.2.2.1); have HS9_ := (hb.cell (World.block_lt_of_cell? _ _ (hHeld.2.2.2.2.2.2.2.2.2.1))).trans (hHeld.2.2.2.2.2.2.2.2.2.1); have HS10_ := (hb.cell (World.block_lt_of_cell? _ _ (hHeld.2.2.2.2.2.2.2.2.2.2.1))).trans (hHeld.2.2.2.2.2.2.2.2.2.2.1); have HS11_ := (hb.cell (World.block_lt_of_cell? _ _ (hHeld.2.2.2.2.2.2.2.2.2.2.2))).trans (hHeld.2.2.2.2.2.2.2.2.2.2.2); refine ⟨_, rfl, ?_⟩; replace HO_0 := My.m (Kd.R_below (My.Ra HO_0.out) hb); replace HK := My.m (Kept.below (S := (fun k_ => P0_ k_)) My.kK hb); replace HB := My.m (below_step My.bB hb); refine hK.out _ _ ⟨HS0_, HS1_, HS2_, HS3_, HS4_, HS5_, HS6_, HS7_, HS8_, HS9_, HS10_, HS11_⟩ (fun hHeld => ?_); clear hK K; refine norm_ (a' := ?_) ?_ ?_; rotate_left
                 ·show Act.put _ (some 48) _ = _
                  simp only [Act.put, List.setIfInBounds_toArray, List.set_cons_zero, List.set_cons_succ, i64_w, i32_w]; rfl
                 refine My.pu 11 49 4095 HT_ ?_; refine done_ (done_of HT_.out (by kernel_rfl)) ?_; (try go_wp2); (try simp only [← hl0_2])
                 go_roundg k2
                 case measure => have := HK1.out; have := HK2.out; omega
                 case rel => exact ⟨(x0_2), (x5_2), (wrap64 (x7_2 + 1)), My.q0, My.q0, H', ⟨by have := HK1.out; have := HK2.out; omega⟩, ⟨Clr.inv1 HI.out QX.out HR193.out.2.1⟩, ⟨by (try simp only [hl0_1]); (try simp only [hl0_2]); (with_reducible repeat (first | apply Kd.R_alloc | apply Kd.R_drewN | apply Kd.R_drew)); exact HO_0.out⟩, ⟨My.kK⟩, ⟨My.bB⟩⟩
                ·replace c24 := Bool.eq_false_iff.mpr c24
                 subst c24; rw [if_neg (show ¬ (false = true) by decide)] at H
                 by_cases c27 : 0 ≤ x5_2
                 ·rw [if_pos c27] at H
                  have QK := Aside0.mk c27; have c27b0 := decide_eq_true c27; clear c27
                  by_cases c28 : x5_2 < (x0_2.length : Int)
                  ·rw [if_pos c28] at H
                   have HK0 := HO_0; have QL := Aside0.mk c28; have c28b0 := decide_eq_true c28; clear c28; obtain ⟨y198, hy198⟩ : ∃ y_ : List (S26), y_ = (x0_2.set (x5_2 : Int).toNat (⟨(rd_T26 y190 x7_2).f0, (rd_T26 y190 x7_2).f1, (rd_T26 y190 x7_2).f2, (rd_T26 y190 x7_2).f3, (rd_T26 y190 x7_2).f4, (rd_T26 y190 x7_2).f5⟩ : S26)) := ⟨_, rfl⟩; (replace H : (api_KV_35.l1 k2 y198 (wrap64 (x5_2 + 1)) y190 (wrap64 (x7_2 + 1))) = some r := by first | (rw [hy198]; with_reducible exact H) | (have H2_ := (Option.bind_some _ _).symm.trans H; rw [hy198]; with_reducible exact H2_) | (have H2_ := (Option.bind_some _ _).symm.trans H; with_reducible exact H2_) | with_reducible exact H | (rw [hy198]; exact H) | exact H); have Ny198 := Aside0.mk hy198; clear hy198; have H' := Aside0.mk H; clear H; (try go_wp2); replace HO_0 := My.m (Kd.R_drew HO_0.out); replace HK := My.m (Kept.drew HK.out); replace HB := My.m (below_drew1 HB.out); have p194 : 0 ≤ (x7_2 : Int) := of_decide_eq_true My.as; have q194 : x7_2 < (y190.length : Int) := of_decide_eq_true My.as; obtain ⟨ad194, e194, hx194_0, hx194_1, hx194_2, hx194_3, hx194_4, hx194_5⟩ := Clr.at2 (Kd.R_reads' HO_0.out).2.2 (Kd.R_reads' HO_0.out).2.1 KA17.out (by have := KL17.out; omega) (by have := KY17.out; omega) HI.out x7_2 p194 q194 (by omega); cases e194; replace p194 := eq_true p194; replace q194 := eq_true q194; have p195 : 0 ≤ ((ji20) : Int) := of_decide_eq_true My.as; have q195 : (ji20) < (y190.length : Int) := of_decide_eq_true My.as; obtain ⟨ad195, e195, hx195_0, hx195_1, hx195_2, hx195_3, hx195_4, hx195_5⟩ := Clr.at2 (Kd.R_reads' HO_0.out).2.2 (Kd.R_reads' HO_0.out).2.1 KA17.out (by have := KL17.out; omega) (by have := KY17.out; omega) HI.out (ji20) p195 q195 (Clr.lo HI.out QX.out HR193.out.2.1 hji20); obtain rfl : ad194 = ad195 := (by injection e195); replace p195 := eq_true p195; replace q195 := eq_true q195; refine start_ (n := 12) (S := fun w' => cT26 w' (ad194.add ((x7_2).toNat * 6)) (rd_T26 y190 x7_2) (eT26 w' (ad194.add (((ji20)).toNat * 6)) (rd_T26 y190 (ji20)))) (ds := []) (My.bl 12 0) (by kernel_rfl) rfl (by kernel_rfl) ⟨hx194_0, hx194_1, hx194_2, hx194_3, hx194_4, hx194_5, hx195_0, hx195_1, hx195_2, hx195_3, hx195_4, hx195_5⟩ (fun hHeld => ?_); refine with_tabW api_KV_35.tab11 api_KV_35.bits11 (fun HT_ HW_ => ?_); generalize wr.drew = w30 at HO_0 HK HB hx194_0 hx194_1 hx194_2 hx194_3 hx194_4 hx194_5 hx195_0 hx195_1 hx195_2 hx195_3 hx195_4 hx195_5 hHeld ⊢; refine My.pu 0 38 1 HT_ ?_; refine My.pu 1 39 3 HT_ ?_; refine My.pu 2 40 7 HT_ ?_; refine My.pu 3 41 15 HT_ ?_; refine My.pu 5 43 47 HT_ ?_; refine My.pu 6 44 111 HT_ ?_; refine My.pu 7 45 239 HT_ ?_; refine My.pu 8 46 495 HT_ ?_; refine My.tk 4 42 511 HT_ HW_ hHeld ?_; refine My.tk 9 47 1023 HT_ HW_ hHeld ?_; refine one_ (i := 10) (N := some 48) (My.bl 12 2047) rfl rfl (one_of HT_.out (by kernel_rfl)) (by decide) (fun K hK => ?_); refine My.goesD_ (cap := #[]) Try.func37 (by kernel_rfl) rfl #[.agg #[.string ((rd_T26 y190 x7_2).f0), .string ((rd_T26 y190 x7_2).f1), .int .i64 ((rd_T26 y190 x7_2).f2), .int .i64 ((rd_T26 y190 x7_2).f3), .int .i64 ((rd_T26 y190 x7_2).f4), .int .i64 ((rd_T26 y190 x7_2).f5)], .agg #[.string ((rd_T26 y190 (ji20)).f0), .string ((rd_T26 y190 (ji20)).f1), .int .i64 ((rd_T26 y190 (ji20)).f2), .int .i64 ((rd_T26 y190 (ji20)).f3), .int .i64 ((rd_T26 y190 (ji20)).f4), .int .i64 ((rd_T26 y190 (ji20)).f5)]] (by rfl) rfl rfl rfl (by first | rfl | (try simp only [List.map_toArray, List.map_cons, List.map_nil]); first | done | (simp only [hji20]; rfl) | rfl | (simp only [List.length_drop, List.length_take]; rfl)) ?_; (with_reducible refine (elect_Terms_1.calls ((rd_T26 y190 x7_2).f0) ((rd_T26 y190 x7_2).f1) ((rd_T26 y190 x7_2).f2) ((rd_T26 y190 x7_2).f3) ((rd_T26 y190 x7_2).f4) ((rd_T26 y190 x7_2).f5) ((rd_T26 y190 (ji20)).f0) ((rd_T26 y190 (ji20)).f1) ((rd_T26 y190 (ji20)).f2) ((rd_T26 y190 (ji20)).f3) ((rd_T26 y190 (ji20)).f4) ((rd_T26 y190 (ji20)).f5) false _ A23.out).mono ?_); rintro e w31 ⟨rfl, hb⟩; have HS0_ := (hb.cell (World.block_lt_of_cell? _ _ (hHeld.1))).trans (hHeld.1); have HS1_ := (hb.cell (World.block_lt_of_cell? _ _ (hHeld.2.1))).trans (hHeld.2.1); have HS2_ := (hb.cell (World.block_lt_of_cell? _ _ (hHeld.2.2.1))).trans (hHeld.2.2.1); have HS3_ := (hb.cell (World.block_lt_of_cell? _ _ (hHeld.2.2.2.1))).trans (hHeld.2.2.2.1); have HS4_ := (hb.cell (World.block_lt_of_cell? _ _ (hHeld.2.2.2.2.1))).trans (hHeld.2.2.2.2.1); have HS5_ := (hb.cell (World.block_lt_of_cell? _ _ (hHeld.2.2.2.2.2.1))).trans (hHeld.2.2.2.2.2.1); have HS6_ := (hb.cell (World.block_lt_of_cell? _ _ (hHeld.2.2.2.2.2.2.1))).trans (hHeld.2.2.2.2.2.2.1); have HS7_ := (hb.cell (World.block_lt_of_cell? _ _ (hHeld.2.2.2.2.2.2.2.1))).trans (hHeld.2.2.2.2.2.2.2.1); have HS8_ := (hb.cell (World.block_lt_of_cell? _ _ (hHeld.2.2.2.2.2.2.2.2.1))).trans (hHeld.2.2.2.2.2.2.2.2.1); have HS9_ := (hb.cell (World.block_lt_of_cell? _ _ (hHeld.2.2.2.2.2.2.2.2.2.1))).trans (hHeld.2.2.2.2.2.2.2.2.2.1); have HS10_ := (hb.cell (World.block_lt_of_cell? _ _ (hHeld.2.2.2.2.2.2.2.2.2.2.1))).trans (hHeld.2.2.2.2.2.2.2.2.2.2.1); have HS11_ := (hb.cell (World.block_lt_of_cell? _ _ (hHeld.2.2.2.2.2.2.2.2.2.2.2))).trans (hHeld.2.2.2.2.2.2.2.2.2.2.2); refine ⟨_, rfl, ?_⟩; replace HO_0 := My.m (Kd.R_below (My.Ra HO_0.out) hb); replace HK := My.m (Kept.below (S := (fun k_ => P0_ k_)) My.kK hb); replace HB := My.m (below_step My.bB hb); refine hK.out _ _ ⟨HS0_, HS1_, HS2_, HS3_, HS4_, HS5_, HS6_, HS7_, HS8_, HS9_, HS10_, HS11_⟩ (fun hHeld => ?_); clear hK K; refine norm_ (a' := ?_) ?_ ?_; rotate_left
                   ·show Act.put _ (some 48) _ = _
                    simp only [Act.put, List.setIfInBounds_toArray, List.set_cons_zero, List.set_cons_succ, i64_w, i32_w]; rfl
                   refine My.pu 11 49 4095 HT_ ?_; refine done_ (done_of HT_.out (by kernel_rfl)) ?_; have p197 : 0 ≤ (x7_2 : Int) := of_decide_eq_true My.as; have q197 : x7_2 < (y190.length : Int) := of_decide_eq_true My.as; obtain ⟨ad197, e197, hx197_0, hx197_1, hx197_2, hx197_3, hx197_4, hx197_5⟩ := Clr.at2 (Kd.R_reads' HO_0.out).2.2 (Kd.R_reads' HO_0.out).2.1 KA17.out (by have := KL17.out; omega) (by have := KY17.out; omega) HI.out x7_2 p197 q197 (by omega); obtain rfl : ad194 = ad197 := (by injection e197); replace p197 := eq_true p197; replace q197 := eq_true q197; have p29 : 0 ≤ (x5_2 : Int) := of_decide_eq_true My.as; have q29 : (x5_2 : Int) < ((x0_2.length : Int) : Int) := of_decide_eq_true My.as; obtain ⟨go29, co29, eo29, gb29, gl29, cl29, HG29⟩ := Kd.R_form HO_0.out (by omega); (first | cases eo29 | (injection eo29 with ea_ en_ ec_; (first | subst ea_ | (injection ea_ with ea_; subst ea_)); subst ec_; clear en_)); have GB29 := Aside0.mk gb29; have GG29 := Aside0.mk HG29; clear gb29 gl29 HG29; have HMgo29 := My.m (show (P0_ gy ∨ w.heap.size ≤ gy) from (HO_0.out.1 _ rfl)); (first | simp only [add_plain] at hx187_0 | skip); (first | simp only [add_plain] at hx187_1 | skip); (first | simp only [add_plain] at hx187_2 | skip); (first | simp only [add_plain] at hx187_3 | skip); (first | simp only [add_plain] at hx187_4 | skip); (first | simp only [add_plain] at hx187_5 | skip); (first | simp only [add_plain] at hx188_0 | skip); (first | simp only [add_plain] at hx188_1 | skip); (first | simp only [add_plain] at hx188_2 | skip); (first | simp only [add_plain] at hx188_3 | skip); (first | simp only [add_plain] at hx188_4 | skip); (first | simp only [add_plain] at hx188_5 | skip); obtain ⟨ce29, hcl29, hM29, hcc29, hfr29⟩ := Kd.R_elem HO_0.out z26 (x5_2 : Int) p29 q29; obtain rfl := k26_openM hM29; have hx29_0 : w31.cell? ⟨gy, (x5_2 : Int).toNat * 6, none⟩ = some (.string ((rd_T26 x0_2 x5_2).f0)) := hcc29 0 _ rfl; have hx29_1 : w31.cell? ⟨gy, (x5_2 : Int).toNat * 6 + 1, none⟩ = some (.string ((rd_T26 x0_2 x5_2).f1)) := hcc29 1 _ rfl; have hx29_2 : w31.cell? ⟨gy, (x5_2 : Int).toNat * 6 + 2, none⟩ = some (.int .i64 ((rd_T26 x0_2 x5_2).f2)) := hcc29 2 _ rfl; have hx29_3 : w31.cell? ⟨gy, (x5_2 : Int).toNat * 6 + 3, none⟩ = some (.int .i64 ((rd_T26 x0_2 x5_2).f3)) := hcc29 3 _ rfl; have hx29_4 : w31.cell? ⟨gy, (x5_2 : Int).toNat * 6 + 4, none⟩ = some (.int .i64 ((rd_T26 x0_2 x5_2).f4)) := hcc29 4 _ rfl; have hx29_5 : w31.cell? ⟨gy, (x5_2 : Int).toNat * 6 + 5, none⟩ = some (.int .i64 ((rd_T26 x0_2 x5_2).f5)) := hcc29 5 _ rfl; have hf29_0 : w31.frozen? ⟨gy, (x5_2 : Int).toNat * 6, none⟩ = false := hfr29 0; have hf29_1 : w31.frozen? ⟨gy, (x5_2 : Int).toNat * 6 + 1, none⟩ = false := hfr29 1; have hf29_2 : w31.frozen? ⟨gy, (x5_2 : Int).toNat * 6 + 2, none⟩ = false := hfr29 2; have hf29_3 : w31.frozen? ⟨gy, (x5_2 : Int).toNat * 6 + 3, none⟩ = false := hfr29 3; have hf29_4 : w31.frozen? ⟨gy, (x5_2 : Int).toNat * 6 + 4, none⟩ = false := hfr29 4; have hf29_5 : w31.frozen? ⟨gy, (x5_2 : Int).toNat * 6 + 5, none⟩ = false := hfr29 5; clear hcl29 hcc29 hfr29 hM29; replace p29 := eq_true p29; replace q29 := eq_true q29; have HX32 := My.m (show Kd.R k26 26 w31 w0.heap.size (fun k_ => (P0_ k_ ∨ w.heap.size ≤ k_)) (.slice (some ⟨gy, 0, none⟩) x0_2.length co5) x0_2 from (My.Ra HO_0.out)); obtain ⟨ce32, hcl32, hM32, hcc32, hfr32⟩ := Kd.R_elem HX32.out z26 (x5_2 : Int) (of_decide_eq_true My.as) (by have h_ : (x5_2 : Int) < ((x0_2.length : Int) : Int) := of_decide_eq_true My.as; first | exact h_ | (have e_ := (Kd.R_reads' HO_0.out).1; omega) | simpa using h_); obtain rfl := k26_openM hM32; have HP32 := Kd.R_seg HX32.out (x5_2 : Int) (of_decide_eq_true My.as) (by have h_ : (x5_2 : Int) < ((x0_2.length : Int) : Int) := of_decide_eq_true My.as; first | exact h_ | (have e_ := (Kd.R_reads' HO_0.out).1; omega) | simpa using h_) (seg := [.string ((rd_T26 y190 x7_2).f0), .string ((rd_T26 y190 x7_2).f1), .int .i64 ((rd_T26 y190 x7_2).f2), .int .i64 ((rd_T26 y190 x7_2).f3), .int .i64 ((rd_T26 y190 x7_2).f4), .int .i64 ((rd_T26 y190 x7_2).f5)]) (j := 0) hcl32 hcc32 (show 6 ≤ 6 from by decide) (x' := (⟨(rd_T26 y190 x7_2).f0, (rd_T26 y190 x7_2).f1, (rd_T26 y190 x7_2).f2, (rd_T26 y190 x7_2).f3, (rd_T26 y190 x7_2).f4, (rd_T26 y190 x7_2).f5⟩ : S26)) (k26_mkM _ _ _ (⟨(rd_T26 y190 x7_2).f0, (rd_T26 y190 x7_2).f1, (rd_T26 y190 x7_2).f2, (rd_T26 y190 x7_2).f3, (rd_T26 y190 x7_2).f4, (rd_T26 y190 x7_2).f5⟩ : S26) ) (fun _ hk => hk); have hx32_0 := hcc32 0 _ rfl; (try simp only [show (k26).sz = 6 from rfl, Nat.mul_one, Nat.add_zero] at hx32_0); have hf32_0 := hfr32 0; (try simp only [show (k26).sz = 6 from rfl, Nat.mul_one, Nat.add_zero] at hf32_0); have hx32_1 := hcc32 1 _ rfl; (try simp only [show (k26).sz = 6 from rfl, Nat.mul_one, Nat.add_zero] at hx32_1); have hf32_1 := hfr32 1; (try simp only [show (k26).sz = 6 from rfl, Nat.mul_one, Nat.add_zero] at hf32_1); have hx32_2 := hcc32 2 _ rfl; (try simp only [show (k26).sz = 6 from rfl, Nat.mul_one, Nat.add_zero] at hx32_2); have hf32_2 := hfr32 2; (try simp only [show (k26).sz = 6 from rfl, Nat.mul_one, Nat.add_zero] at hf32_2); have hx32_3 := hcc32 3 _ rfl; (try simp only [show (k26).sz = 6 from rfl, Nat.mul_one, Nat.add_zero] at hx32_3); have hf32_3 := hfr32 3; (try simp only [show (k26).sz = 6 from rfl, Nat.mul_one, Nat.add_zero] at hf32_3); have hx32_4 := hcc32 4 _ rfl; (try simp only [show (k26).sz = 6 from rfl, Nat.mul_one, Nat.add_zero] at hx32_4); have hf32_4 := hfr32 4; (try simp only [show (k26).sz = 6 from rfl, Nat.mul_one, Nat.add_zero] at hf32_4); have hx32_5 := hcc32 5 _ rfl; (try simp only [show (k26).sz = 6 from rfl, Nat.mul_one, Nat.add_zero] at hx32_5); have hf32_5 := hfr32 5; (try simp only [show (k26).sz = 6 from rfl, Nat.mul_one, Nat.add_zero] at hf32_5); clear hcl32 hcc32 hfr32 hM32; (try go_wp2_with (first | ((with_reducible refine gate_store (t := 26) (p := 56) rfl ?_); refine store_event (t := 26) (p := 56) (v := ?vo_w33) (w1 := ((((((w31.setCell ⟨gy, (x5_2 : Int).toNat * 6, none⟩ (.string ((rd_T26 y190 x7_2).f0))).setCell ⟨gy, (x5_2 : Int).toNat * 6 + 1, none⟩ (.string ((rd_T26 y190 x7_2).f1))).setCell ⟨gy, (x5_2 : Int).toNat * 6 + 2, none⟩ (.int .i64 ((rd_T26 y190 x7_2).f2))).setCell ⟨gy, (x5_2 : Int).toNat * 6 + 3, none⟩ (.int .i64 ((rd_T26 y190 x7_2).f3))).setCell ⟨gy, (x5_2 : Int).toNat * 6 + 4, none⟩ (.int .i64 ((rd_T26 y190 x7_2).f4))).setCell ⟨gy, (x5_2 : Int).toNat * 6 + 5, none⟩ (.int .i64 ((rd_T26 y190 x7_2).f5)))) ?hg ?ho ?hn ?hr ?_; (case ho => rfl); (case hg => rfl); (case hn => rfl); (case hr => first | (go_simp; done) | (go_simp; rfl)); intro w33 hw; have hg : w31.grownBy w33 (some gy) := (by rw [hw]; exact HP32.2); have hp_ : Kd.R k26 26 w33 w0.heap.size (fun k_ => (P0_ k_ ∨ w.heap.size ≤ k_)) (.slice (some ⟨gy, 0, none⟩) x0_2.length co5) y198 := (by rw [hw, Ny198.out]; exact HP32.1); clear HP32; replace HB := My.m ((by rw [hw]; exact below_set (below_set (below_set (below_set (below_set (below_set (HB.out) GB29.out) GB29.out) GB29.out) GB29.out) GB29.out) GB29.out : Below w0.heap.size w0 w33)); replace HK := My.m (Kept.of_grown (S := (fun k_ => P0_ k_)) hg My.kK (fun k_ e_ => (HO_0.out.1 k_ e_))); replace HO_0 := My.m hp_; clear hg hw hp_)))
                   (try simp only [← hl0_2])
                   go_roundg k2
                   case measure => have := HK1.out; have := HK2.out; omega
                   case rel => exact ⟨(y198), (wrap64 (x5_2 + 1)), (wrap64 (x7_2 + 1)), My.q0, My.q0, H', ⟨by have := HK1.out; have := HK2.out; omega⟩, ⟨by rw [Ny198.out]; exact Clr.inv2 HI.out QX.out HR193.out.2.1 QK.out HX5.out.1 QL.out (Kd.R_reads' HK0.out).2.2.2.1 _⟩, ⟨by (try simp only [hl0_1]); (try simp only [hl0_2]); (with_reducible repeat (first | apply Kd.R_alloc | apply Kd.R_drewN | apply Kd.R_drew)); exact HO_0.out⟩, ⟨My.kK⟩, ⟨My.bB⟩⟩
                  ·exact My.no c28 H
                 ·exact My.no c27 H
               ·exact My.no c22 H
              ·exact My.no c21 H
             ·exact My.no c19 H
            ·rw [if_neg c18] at H
             have c18b0 := decide_eq_false c18; clear c18
             by_cases c34 : 0 ≤ x5_2
             ·rw [if_pos c34] at H
              have c34b0 := eq_true c34; have c34b1 : decide (0 ≤ x5_2) = true := decide_eq_true c34; clear c34
              by_cases c35 : x5_2 ≤ (x0_2.length : Int)
              ·rw [if_pos c35] at H
               have c35b0 := eq_true c35; have c35b1 : decide (x5_2 ≤ (x0_2.length : Int)) = true := decide_eq_true c35; clear c35; obtain ⟨y199, hy199⟩ : ∃ y_ : List (S26), y_ = (x0_2.drop (x5_2 : Int).toNat) := ⟨_, rfl⟩; (replace H : (some (x0_2.take (x5_2 : Int).toNat)) = some r := by first | (rw [hy199]; with_reducible exact H) | (have H2_ := (Option.bind_some _ _).symm.trans H; rw [hy199]; with_reducible exact H2_) | (have H2_ := (Option.bind_some _ _).symm.trans H; with_reducible exact H2_) | with_reducible exact H | (rw [hy199]; exact H) | exact H); have Ny199 := Aside0.mk hy199; clear hy199; have c36b0 := eq_true (of_decide_eq_true My.as : x5_2 ≤ (x0_2.length : Int)); obtain ⟨y203, hy203⟩ : ∃ y_ : List (S26), y_ = (x0_2.take (x5_2 : Int).toNat) := ⟨_, rfl⟩; (replace H : (some y203) = some r := by first | (rw [hy203]; with_reducible exact H) | (have H2_ := (Option.bind_some _ _).symm.trans H; rw [hy203]; with_reducible exact H2_) | (have H2_ := (Option.bind_some _ _).symm.trans H; with_reducible exact H2_) | with_reducible exact H | (rw [hy203]; exact H) | exact H); have Ny203 := Aside0.mk hy203; clear hy203; obtain rfl := Option.some.inj H; have q37 : (x5_2 : Int) ≤ ((x0_2.length : Int) : Int) := of_decide_eq_true My.as; obtain ⟨i037, hi037, _, hsz37, _⟩ := info_parts info26; have hroom37 : x0_2.length ≤ co5 := (Kd.R_reads' HO_0.out).2.1; have hC37 : Kd.C k26 _ (some (⟨gy, 0, none⟩ : Addr)) x0_2.length x0_2 := (Kd.R_reads' HO_0.out).2.2; have q037 : (0 : Int) ≤ (x5_2 : Int) := of_decide_eq_true My.as; have hcut37 := cut_from (P := Try.prog) 22 26 .i64 Try.underlying22 hi037 6 hsz37 (some (⟨gy, 0, none⟩ : Addr)) x0_2.length co5 x5_2 q037 q37; have hr37 := Kd.C_drop (m := (x5_2 : Int).toNat) (c := co5) hC37 (by omega) hroom37; obtain ⟨A37, hA37⟩ : ∃ A1, A1 = (if co5 = (x5_2 : Int).toNat then (some (⟨gy, 0, none⟩ : Addr)) else ((some (⟨gy, 0, none⟩ : Addr)) : Option Addr).map (·.add ((x5_2 : Int).toNat * 6))) := ⟨_, rfl⟩; obtain ⟨c37, hc37⟩ : ∃ c1, c1 = co5 - (x5_2 : Int).toNat := ⟨_, rfl⟩; have hy37 : y199.length = x0_2.length - (x5_2 : Int).toNat := (by rw [Ny199.out, List.length_drop] <;> omega); rw [show (x0_2).drop (x5_2 : Int).toNat = y199 from Ny199.out.symm] at hr37; replace hr37 : Kd.C k26 _ A37 y199.length y199 := (by rw [hA37]; exact hr37); rw [← hy37, ← hA37, ← hc37] at hcut37; have HR202 := Aside0.mk hr37; have HC202 := My.m (show y199.length ≤ c37 from by rw [hy37, hc37]; exact Nat.sub_le_sub_right hroom37 _); clear hr37 hC37 hroom37 hi037 hsz37 hc37; have KY37 := Aside0.mk hy37; have KA37 := Aside0.mk hA37; clear hy37 hA37; have KL37 := My.m (show (x5_2 : Int).toNat ≤ x0_2.length from by omega); replace q37 := eq_true q37; have q38 : (x5_2 : Int) ≤ ((x0_2.length : Int) : Int) := of_decide_eq_true My.as; obtain ⟨i038, hi038, _, hsz38, _⟩ := info_parts info26; have hcut38 := cut_to (P := Try.prog) 22 26 .i64 Try.underlying22 hi038 (some (⟨gy, 0, none⟩ : Addr)) x0_2.length co5 x5_2 (of_decide_eq_true My.as) q38 (Kd.R_reads' HO_0.out).2.1; obtain ⟨gz, cz, ez, gbz, glz, clz, HGz⟩ := Kd.R_form HO_0.out (by have := HX5.out; omega); (first | cases ez | (injection ez with ea_ en_ ec_; (first | subst ea_ | (injection ea_ with ea_; subst ea_)); subst ec_; clear en_)); have hnz : (x5_2 : Int).toNat + y199.length = x0_2.length := (by have := KY37.out; have := KL37.out; omega); have hcl := fun ty => Clr.run (P := Try.prog) (t := 22) (ty := ty) (c := c37) HO_0.out y199.length hnz Try.underlying22 (fun w => by kernel_rfl) KA37.out; obtain ⟨yz, ez1, ez2, hRz, hGz⟩ := Clr.row y199.length (x5_2 : Int).toNat HO_0.out hnz; have hBz := Clr.below gbz (Clr.zl y199.length) ((x5_2 : Int).toNat * 6) _ HB.out; have hKz := Kept.of_grown (S := (fun k_ => P0_ k_)) hGz My.kK (fun k_ e_ => (HO_0.out.1 k_ e_)); have hr38 := Kd.R_take (m := (x5_2 : Int).toNat) hRz (by rw [ez1]; omega); rw [ez2] at hr38; have hy38 : y203.length = (x5_2 : Int).toNat := (by rw [Ny203.out, List.length_take]; omega); rw [← Ny203.out] at hr38; rw [← hy38] at hr38 hcut38; rw [show (y203).length * 6 = (x5_2 : Int).toNat * 6 from by rw [hy38]] at hr38; clear hy38 hi038 hsz38 HO_0; have HO205 := Aside0.mk hr38; clear hr38; clear HB HK; have HB := Aside0.mk hBz; have HK := Aside0.mk hKz; clear hBz hKz hRz hGz; replace q38 := eq_true q38
               go_wp2
               go_ret
               exact ⟨_, by first | rfl | (simp [errW_none, errW_some] <;> rfl) | (simp only [← hji8]; first | rfl | (simp [errW_none, errW_some] <;> rfl)) | (simp [*, errW_none, errW_some] <;> rfl), My.Ra HO205.out, My.bB, My.kK⟩
              ·exact My.no c35 H
             ·exact My.no c34 H
         ·exact My.no c14 H
        ·replace c12 := Bool.eq_false_iff.mpr c12
         subst c12; rw [if_neg (show ¬ (false = true) by decide)] at H; have H' := Aside0.mk H; clear H; (try go_wp2); replace HO_0 := My.m (Kd.R_drew HO_0.out); replace HK := My.m (Kept.drew HK.out); replace HB := My.m (below_drew1 HB.out); have p187 : 0 ≤ (x5_1 : Int) := of_decide_eq_true My.as; have q187 : x5_1 < (x0_1.length : Int) := of_decide_eq_true My.as; obtain ⟨ad187, e187, hx187_0, hx187_1, hx187_2, hx187_3, hx187_4, hx187_5⟩ := at_T26 (Kd.R_reads' HO_0.out).2.2 x5_1 p187 q187; cases e187; replace p187 := eq_true p187; replace q187 := eq_true q187; have p188 : 0 ≤ ((ji8) : Int) := of_decide_eq_true My.as; have q188 : (ji8) < (x0_1.length : Int) := of_decide_eq_true My.as; obtain ⟨ad188, e188, hx188_0, hx188_1, hx188_2, hx188_3, hx188_4, hx188_5⟩ := at_T26 (Kd.R_reads' HO_0.out).2.2 (ji8) p188 q188; obtain rfl : ad187 = ad188 := (by injection e188); replace p188 := eq_true p188; replace q188 := eq_true q188; refine start_ (n := 11) (S := fun w' => cT26 w' (ad187.add ((x5_1).toNat * 6)) (rd_T26 x0_1 x5_1) (eT26 w' (ad187.add (((ji8)).toNat * 6)) (rd_T26 x0_1 (ji8)))) (ds := []) (My.bl 11 0) (by kernel_rfl) rfl (by kernel_rfl) ⟨hx187_0, hx187_1, hx187_2, hx187_3, hx187_4, hx187_5, hx188_0, hx188_1, hx188_2, hx188_3, hx188_4, hx188_5⟩ (fun hHeld => ?_); refine with_tabW api_KV_35.tab6 api_KV_35.bits6 (fun HT_ HW_ => ?_); generalize wr.drew = w39 at HO_0 HK HB hx187_0 hx187_1 hx187_2 hx187_3 hx187_4 hx187_5 hx188_0 hx188_1 hx188_2 hx188_3 hx188_4 hx188_5 hHeld ⊢; refine My.pu 0 18 1 HT_ ?_; refine My.pu 1 19 3 HT_ ?_; refine My.pu 2 20 7 HT_ ?_; refine My.pu 3 21 15 HT_ ?_; refine My.pu 5 23 47 HT_ ?_; refine My.pu 6 24 111 HT_ ?_; refine My.pu 7 25 239 HT_ ?_; refine My.pu 8 26 495 HT_ ?_; refine My.tk 4 22 511 HT_ HW_ hHeld ?_; refine My.tk 9 27 1023 HT_ HW_ hHeld ?_; refine one_ (i := 10) (N := some 28) (My.bl 11 2047) rfl rfl (one_of HT_.out (by kernel_rfl)) (by decide) (fun K hK => ?_); refine My.goesD_ (cap := #[]) Try.func37 (by kernel_rfl) rfl #[.agg #[.string ((rd_T26 x0_1 x5_1).f0), .string ((rd_T26 x0_1 x5_1).f1), .int .i64 ((rd_T26 x0_1 x5_1).f2), .int .i64 ((rd_T26 x0_1 x5_1).f3), .int .i64 ((rd_T26 x0_1 x5_1).f4), .int .i64 ((rd_T26 x0_1 x5_1).f5)], .agg #[.string ((rd_T26 x0_1 (ji8)).f0), .string ((rd_T26 x0_1 (ji8)).f1), .int .i64 ((rd_T26 x0_1 (ji8)).f2), .int .i64 ((rd_T26 x0_1 (ji8)).f3), .int .i64 ((rd_T26 x0_1 (ji8)).f4), .int .i64 ((rd_T26 x0_1 (ji8)).f5)]] (by rfl) rfl rfl rfl (by first | rfl | (try simp only [List.map_toArray, List.map_cons, List.map_nil]); first | done | (simp only [hji8]; rfl) | rfl | (simp only [List.length_drop, List.length_take]; rfl)) ?_; (with_reducible refine (elect_Terms_1.calls ((rd_T26 x0_1 x5_1).f0) ((rd_T26 x0_1 x5_1).f1) ((rd_T26 x0_1 x5_1).f2) ((rd_T26 x0_1 x5_1).f3) ((rd_T26 x0_1 x5_1).f4) ((rd_T26 x0_1 x5_1).f5) ((rd_T26 x0_1 (ji8)).f0) ((rd_T26 x0_1 (ji8)).f1) ((rd_T26 x0_1 (ji8)).f2) ((rd_T26 x0_1 (ji8)).f3) ((rd_T26 x0_1 (ji8)).f4) ((rd_T26 x0_1 (ji8)).f5) false _ A11.out).mono ?_); rintro e w40 ⟨rfl, hb⟩; have HS0_ := (hb.cell (World.block_lt_of_cell? _ _ (hHeld.1))).trans (hHeld.1); have HS1_ := (hb.cell (World.block_lt_of_cell? _ _ (hHeld.2.1))).trans (hHeld.2.1); have HS2_ := (hb.cell (World.block_lt_of_cell? _ _ (hHeld.2.2.1))).trans (hHeld.2.2.1); have HS3_ := (hb.cell (World.block_lt_of_cell? _ _ (hHeld.2.2.2.1))).trans (hHeld.2.2.2.1); have HS4_ := (hb.cell (World.block_lt_of_cell? _ _ (hHeld.2.2.2.2.1))).trans (hHeld.2.2.2.2.1); have HS5_ := (hb.cell (World.block_lt_of_cell? _ _ (hHeld.2.2.2.2.2.1))).trans (hHeld.2.2.2.2.2.1); have HS6_ := (hb.cell (World.block_lt_of_cell? _ _ (hHeld.2.2.2.2.2.2.1))).trans (hHeld.2.2.2.2.2.2.1); have HS7_ := (hb.cell (World.block_lt_of_cell? _ _ (hHeld.2.2.2.2.2.2.2.1))).trans (hHeld.2.2.2.2.2.2.2.1); have HS8_ := (hb.cell (World.block_lt_of_cell? _ _ (hHeld.2.2.2.2.2.2.2.2.1))).trans (hHeld.2.2.2.2.2.2.2.2.1); have HS9_ := (hb.cell (World.block_lt_of_cell? _ _ (hHeld.2.2.2.2.2.2.2.2.2.1))).trans (hHeld.2.2.2.2.2.2.2.2.2.1); have HS10_ := (hb.cell (World.block_lt_of_cell? _ _ (hHeld.2.2.2.2.2.2.2.2.2.2.1))).trans (hHeld.2.2.2.2.2.2.2.2.2.2.1); have HS11_ := (hb.cell (World.block_lt_of_cell? _ _ (hHeld.2.2.2.2.2.2.2.2.2.2.2))).trans (hHeld.2.2.2.2.2.2.2.2.2.2.2); refine ⟨_, rfl, ?_⟩; replace HO_0 := My.m (Kd.R_below (My.Ra HO_0.out) hb); replace HK := My.m (Kept.below (S := (fun k_ => P0_ k_)) My.kK hb); replace HB := My.m (below_step My.bB hb); refine hK.out _ _ ⟨HS0_, HS1_, HS2_, HS3_, HS4_, HS5_, HS6_, HS7_, HS8_, HS9_, HS10_, HS11_⟩ (fun hHeld => ?_); clear hK K; refine norm_ (a' := ?_) ?_ ?_; rotate_left
         ·show Act.put _ (some 28) _ = _
          simp only [Act.put, List.setIfInBounds_toArray, List.set_cons_zero, List.set_cons_succ, i64_w, i32_w]; rfl
         refine done_ (done_of HT_.out (by kernel_rfl)) ?_; (try go_wp2); (try simp only [← hl0_1])
         go_roundg k1
         case measure => have := HK1.out; omega
         case rel => exact ⟨(x0_1), (wrap64 (x5_1 + 1)), My.q0, H', ⟨by have := HK1.out; omega⟩, ⟨by (try simp only [hl0_1]); (with_reducible repeat (first | apply Kd.R_alloc | apply Kd.R_drewN | apply Kd.R_drew)); exact HO_0.out⟩, ⟨My.kK⟩, ⟨My.bB⟩⟩
       ·exact My.no c10 H
      ·exact My.no c9 H
     ·exact My.no c7 H
    ·rw [if_neg c6] at H
     have c6b0 := decide_eq_false c6; clear c6; obtain rfl := Option.some.inj H
     go_wp2
     go_ret
     exact ⟨_, My.q1, My.Ra HO_0.out, My.bB, My.kK⟩

/-! ### elect_Terms: function 16 -/
def elect_Terms.l0 : Nat → List Int → List (S26) → Int → Int → Option (List Int)
  | 0, _, _, _, _ => none
  | k + 1, x3, x8, x9, x10 => if x10 < x9 then (if 0 ≤ x10 then (if x10 < (x8.length : Int) then (if x3.length < 17592186044416 then (elect_Terms.l0 k (x3 ++ [(rd_T26 x8 x10).f2]) x8 x9 (wrap64 (x10 + 1))) else (none)) else (none)) else (none)) else (some x3)
def elect_Terms.f (k : Nat) (l0 : List (S26)) : Option (List Int) := (api_KV_36.f l0).bind fun t206 => ((api_KV_35.f k t206 ()).bind fun t209 => (elect_Terms.l0 k ([] : List Int) t209 (t209.length : Int) 0))
theorem elect_Terms.mono_l : ∀ k, (∀ y0 y1 y2 y3, LeO (elect_Terms.l0 k y0 y1 y2 y3) (elect_Terms.l0 (k + 1) y0 y1 y2 y3))
  | 0 => fun _ _ _ _ r h => by simp [elect_Terms.l0] at h
  | k + 1 => by
    have ih0 := elect_Terms.mono_l k
    · intro y0 y1 y2 y3
      unfold elect_Terms.l0
      have ic0 := @api_KV_35.mono; exact My.mono_
theorem elect_Terms.mono : ∀ a0 k, LeO (elect_Terms.f k a0) (elect_Terms.f (k + 1) a0) := by
  intro a0 k
  have ih0 := elect_Terms.mono_l k
  unfold elect_Terms.f
  have ic0 := @api_KV_35.mono; exact My.mono_
set_option maxHeartbeats 80000000 in
set_option maxRecDepth 100000 in
theorem elect_Terms.calls (k : Nat) (A0 : Option Addr) (c0 : Nat) (l0 : List (S26)) (r : List Int) (w : World) (hr0 : Kd.C k26 w A0 l0.length l0) (hc0 : l0.length ≤ c0) (h : elect_Terms.f k l0 = some r) :
    Calls Try.prog 16 #[.slice A0 l0.length c0] w fun e w' => ∃ v0_ : Value, e = .returned (v0_) ∧ Kd.R (Kd.int .i64) 3 w' w.heap.size (fun _ => True) v0_ r ∧ Below w.heap.size w w' := by
  have hu26 := Try.underlying26; have HR0 := Aside0.mk hr0; have HC0 := Aside0.mk hc0; clear hr0 hc0; have HB := My.m (Below.refl w.heap.size w); have H := h; clear h; unfold elect_Terms.f at H; replace H := Option.bind_eq_some_iff.mp H; obtain ⟨t206, A20, H⟩ := H; have A2 := Aside0.mk A20; clear A20; replace H := Option.bind_eq_some_iff.mp H; obtain ⟨t209, A30, H⟩ := H; have A3 := Aside0.mk A30; clear A30; have H' := Aside0.mk H; clear H
  go_enter Try.func16, Try.ntmps16
  go_wp2_with (first | ((with_reducible refine gate_callee (f := 36) rfl ?_); refine goesL_ (some 7) rfl rfl Try.func36 (by kernel_rfl) rfl #[.slice A0 l0.length c0] rfl My.ar ?_; (with_reducible refine (api_KV_36.calls _ _ l0 t206 _ ?side1 ?side2 A2.out).mono ?_); (case side1 => exact My.Ca HR0.out); (case side2 => exact HC0.out); rintro e w4 ⟨v207, rfl, ho0, hb⟩; refine ⟨_, rfl, ?_⟩; have HO208 := My.m (Kd.R_lower ho0 (below_size My.bB)); replace HB := My.m (below_step My.bB hb); (try clear hb); (try clear hb2); (try clear hk); (try clear hi); (try clear ho0); obtain ⟨Ao5, co5, eo5⟩ := Kd.R_slice HO208.out; subst eo5) | ((with_reducible refine gate_callee (f := 35) rfl ?_); refine goesL_ (some 8) rfl rfl Try.func35 (by kernel_rfl) rfl #[.slice Ao5 t206.length co5, .func (.func 37) #[] #[]] rfl My.ar ?_; (with_reducible refine (api_KV_35.calls k (fun k_ => some k_ = (.slice Ao5 t206.length co5 : Value).ownBlock) (.slice Ao5 t206.length co5) t206 () t209 w _ ?side1 ?side2 A3.out).mono ?_); (case side1 => repeat (first | (with_reducible first | exact HB.out | apply below_alloc | apply pw_below_drewN | apply below_drew1) | exact HB.out)); (case side2 => exact Kd.R_tight rfl HO208.out); rintro e w6 ⟨v210, rfl, ho0, hb, hkp⟩; refine ⟨_, rfl, ?_⟩; have HO211 := My.m (Kd.R_mono (ok' := fun k_ => True) ho0 (fun k_ hk_ => trivial)); replace HB := My.m hb; clear HO208; (try clear hb); (try clear hkp); (try clear ho0); obtain ⟨Ao7, co7, eo7⟩ := Kd.R_slice HO211.out; subst eo7))
  go_loopg [3, 10] k (fun kq v3 v10 w' => ∃ (x3_1 : List Int) (x10_1 : Int), v10 = .int .i64 x10_1 ∧ Aside0 (elect_Terms.l0 kq x3_1 t209 (t209.length : Int) x10_1 = some r) ∧ Aside0 (kq ≤ k) ∧ Aside0 (Kd.R (Kd.int .i64) 3 w' w.heap.size (fun _ => True) v3 x3_1) ∧ Aside0 (Kd.R k26 26 w' w.heap.size (fun _ => True) (.slice Ao7 t209.length co7) t209) ∧ Aside0 (Below w.heap.size w w'))
  case atStart => exact ⟨(([] : List Int)), (0), My.q0, H', ⟨Nat.le_refl _⟩, ⟨by first | exact Kd.R_nil _ _ _ _ _ | exact Kd.N_nil _ _ _ _ _ | exact Kd.V_nil _ _ _ _ _ | exact Kd.Q_nil _ _ _ _ _ | exact Kd.S_nil _ _ _ _ _⟩, ⟨My.Ra HO211.out⟩, ⟨My.bB⟩⟩
  case round =>
    clear H'; (try clear c1); (try clear p2); (try clear c3); obtain ⟨x3_1, x10_1, rfl, HA, HK1, HO_3, HO_8, HB⟩ := hrel
    cases gk with
    | zero => exact absurd HA.out (by simp [elect_Terms.l0])
    | succ k1 =>
      have H := HA.out; clear HA; simp only [elect_Terms.l0] at H
      by_cases c8 : x10_1 < (t209.length : Int)
      · rw [if_pos c8] at H
        have c8b0 := decide_eq_true c8; clear c8
        by_cases c9 : 0 ≤ x10_1
        · rw [if_pos c9] at H
          have c9b0 := decide_eq_true c9; clear c9
          by_cases c10 : x10_1 < (t209.length : Int)
          · rw [if_pos c10] at H
            have c10b0 := decide_eq_true c10; clear c10
            by_cases c11 : x3_1.length < 17592186044416
            · rw [if_pos c11] at H
              have LMc11 := Aside0.mk c11; clear c11; obtain ⟨y214, hy214⟩ : ∃ y_ : List Int, y_ = (x3_1 ++ [(rd_T26 t209 x10_1).f2]) := ⟨_, rfl⟩; (replace H : (elect_Terms.l0 k1 y214 t209 (t209.length : Int) (wrap64 (x10_1 + 1))) = some r := by first | (rw [hy214]; with_reducible exact H) | (have H2_ := (Option.bind_some _ _).symm.trans H; rw [hy214]; with_reducible exact H2_) | (have H2_ := (Option.bind_some _ _).symm.trans H; with_reducible exact H2_) | with_reducible exact H | (rw [hy214]; exact H) | exact H); have Ny214 := Aside0.mk hy214; clear hy214; have H' := Aside0.mk H; clear H; have p212 : 0 ≤ (x10_1 : Int) := of_decide_eq_true My.as; have q212 : x10_1 < (t209.length : Int) := of_decide_eq_true My.as; obtain ⟨ad212, e212, hx212_0, hx212_1, hx212_2, hx212_3, hx212_4, hx212_5⟩ := at_T26 (Kd.R_reads' HO_8.out).2.2 x10_1 p212 q212; cases e212; replace p212 := eq_true p212; replace q212 := eq_true q212
              go_wp2_with (first | ((with_reducible refine gate_dst (N := 5) rfl ?_); refine My.be 5 26 #[.string (⟨#[]⟩ : ByteArray), .string (⟨#[]⟩ : ByteArray), .int .i64 0, .int .i64 0, .int .i64 0, .int .i64 0] ?_; intro gb213 hg w12 hbox hb; replace HO_3 := My.m (Kd.R_below (My.Ra HO_3.out) hb); replace HO_8 := My.m (Kd.R_below (Kd.R_elderB (My.Ra HO_8.out) gb213 (Nat.le_of_eq hg.symm)) hb); have BK213 := My.m hbox; have GW213 := My.m ((My.nw w hg My.bB)); have GE213 := My.m ((My.nw w hg My.bB)); replace HB := My.m (below_step My.bB hb); clear hb hbox hg; obtain ⟨_, _, _, _, _, _⟩ := My.qc6 BK213.out; obtain ⟨_, _, _, _, _, _⟩ := My.qf6 BK213.out) | ((with_reducible refine gate_builtin (b := .append) (xs := #[.tmp 14, .tmp 17]) rfl ?_); at_builtin; refine Kd.R_append (Kd.int .i64) (w0 := w) w.heap.size rfl (.tmp 14) (.tmp 17) 32 3 (.int .i64 0) 8 rfl Try.underlying32 info3 rfl (by decide) (by omega) u3 x3_1 ((rd_T26 t209 x10_1).f2) [.int .i64 ((rd_T26 t209 x10_1).f2)] (fun _ => True) (fun _ => False) rfl (by first | (go_simp; done) | (go_simp; rfl)) ?aP (fun _ hk => hk.elim) ?aF ?aO ?aB ?aS ?aL ?_; (case aP => exact rfl); (case aB => exact My.bA); (case aF => exact (fun _ _ => trivial)); (case aO => exact (by (with_reducible repeat (first | apply Kd.R_alloc | apply Kd.R_drewN | apply Kd.R_drew)); exact Kd.R_mono (My.qr6 (Kd.R_types HO_3.out BK213.out (by decide)) (fun _ hk => hk.2)) (fun _ hk => trivial))); (case aS => exact (below_size My.bA)); (case aL => have := LMc11.out; omega); intro v215 w14 ho hb hg hat; rw [← Ny214.out] at ho; have n0_ := My.m (Kd.R_over' (by (with_reducible repeat (first | apply Kd.R_alloc | apply Kd.R_drewN | apply Kd.R_drew)); exact (Kd.R_mono (My.qr6 (Kd.R_mono HO_8.out (fun k_ hk => (⟨hk, hk.2⟩ : _ ∧ k_ ≠ gb213))) (fun _ hk => hk.2)) (fun _ h_ => h_.1))) (Kd.R_typed (by (with_reducible repeat (first | apply Kd.R_alloc | apply Kd.R_drewN | apply Kd.R_drew)); exact (Kd.R_mono (My.qr6 (Kd.R_types HO_3.out BK213.out (by decide)) (fun _ hk => hk.2)) (fun _ h_ => h_.1)))) (by decide) hg); have n1_ := My.m (blk_grown (My.qp6 BK213.out) hg (Kd.R_ne HO_3.out BK213.out (by decide))); have n2_ := My.m hb; have n3_ := My.m ho; clear HO_8; clear BK213; clear HB; clear HO_3; have HO_8 := n0_; have BK213 := n1_; have HB := n2_; have HO216 := n3_; clear n0_ n1_ n2_ n3_; clear ho hb hg hat))
              go_roundg k1
              case measure => have := HK1.out; omega
              case rel => exact ⟨(y214), (wrap64 (x10_1 + 1)), My.q0, H', ⟨by have := HK1.out; omega⟩, ⟨My.Ra HO216.out⟩, ⟨by (with_reducible repeat (first | apply Kd.R_alloc | apply Kd.R_drewN | apply Kd.R_drew)); exact Kd.R_mono HO_8.out (fun _ hk => trivial)⟩, ⟨My.bA⟩⟩
            · exact My.no c11 H
          · exact My.no c10 H
        · exact My.no c9 H
      · rw [if_neg c8] at H
        have c8b0 := decide_eq_false c8; clear c8; obtain rfl := Option.some.inj H
        go_wp2
        go_ret
        exact ⟨_, My.q1, My.Ra HO_3.out, My.bB⟩

/-! ### elect_of: function 38 -/
def elect_of.f (l0 : List (S26)) : Option (ByteArray × ByteArray × Int × Int × Int × Int × Bool) := (elect_Head.f l0).bind fun bt218 => (some (bt218.1, bt218.2.1, bt218.2.2.1, bt218.2.2.2.1, bt218.2.2.2.2.1, bt218.2.2.2.2.2.1, bt218.2.2.2.2.2.2))
set_option maxHeartbeats 80000000 in
set_option maxRecDepth 100000 in
theorem elect_of.calls (A0 : Option Addr) (c0 : Nat) (l0 : List (S26)) (r1 : ByteArray) (r2 : ByteArray) (r3 : Int) (r4 : Int) (r5 : Int) (r6 : Int) (r7 : Bool) (w : World) (hr0 : Kd.C k26 w A0 l0.length l0) (hc0 : l0.length ≤ c0) (h : elect_of.f l0 = some (r1, r2, r3, r4, r5, r6, r7)) :
    Calls Try.prog 38 #[.slice A0 l0.length c0] w fun e w' => e = .returned (.agg #[.string r1, .string r2, .int .i64 r3, .int .i64 r4, .int .i64 r5, .int .i64 r6, .bool r7]) ∧ Below w.heap.size w w' := by
  have hu64 := Try.underlying64; have hu26 := Try.underlying26; have HR0 := Aside0.mk hr0; have HC0 := Aside0.mk hc0; clear hr0 hc0; have HB := My.m (Below.refl w.heap.size w); have H := h; clear h; unfold elect_of.f at H; replace H := Option.bind_eq_some_iff.mp H; obtain ⟨⟨t218, t219, t220, t221, t222, t223, t224⟩, A20, H⟩ := H; dsimp only at H; have A2 := Aside0.mk A20; clear A20; simp only [Option.some.injEq, Prod.mk.injEq] at H; obtain ⟨rfl, rfl, rfl, rfl, rfl, rfl, rfl⟩ := H
  go_enter Try.func38, Try.ntmps38
  go_wp2_with (first | ((with_reducible refine gate_dst (N := 2) rfl ?_); refine My.be 2 64 #[.string (⟨#[]⟩ : ByteArray), .string (⟨#[]⟩ : ByteArray), .int .i64 0, .int .i64 0, .int .i64 0, .int .i64 0, .bool false] ?_; intro gb217 hg w3 hbox hb; have BK217 := My.m hbox; have GW217 := My.m ((My.nw w hg My.bB)); have GE217 := My.m ((My.nw w hg My.bB)); replace HB := My.m (below_step My.bB hb); clear hb hbox hg) | ((with_reducible refine gate_callee (f := 11) rfl ?_); refine goesL_ (some 7) rfl rfl Try.func11 (by kernel_rfl) rfl #[.slice A0 l0.length c0] rfl My.ar ?_; (with_reducible refine (elect_Head.calls _ _ l0 t218 t219 t220 t221 t222 t223 t224 _ ?side1 ?side2 A2.out).mono ?_); (case side1 => exact My.Ca (Kd.C_below HR0.out HB.out)); (case side2 => exact HC0.out); rintro e w4 ⟨rfl, hb⟩; refine ⟨_, rfl, ?_⟩; replace BK217 := My.m (My.kb BK217.out hb); replace HB := My.m (below_step My.bA hb); (try clear hb); (try clear hb2); (try clear hk); (try clear hi)) | ((with_reducible refine gate_dst (N := 3) rfl ?_); refine My.be 3 26 #[.string (⟨#[]⟩ : ByteArray), .string (⟨#[]⟩ : ByteArray), .int .i64 0, .int .i64 0, .int .i64 0, .int .i64 0] ?_; intro gb225 hg w5 hbox hb; have BK225 := My.m hbox; have GW225 := My.m ((My.nw w hg My.bA)); have GE225 := My.m ((My.nw w hg My.bA)); replace HB := My.m (below_step My.bA hb); have NB217_225 := My.m ((My.nl hg BK217)); have NB225_217 := My.m ((My.nr hg BK217)); replace BK217 := My.m (My.kb BK217.out hb); clear hb hbox hg; have hnb6 := NB225_217.out; have hnc6 := NB217_225.out; obtain ⟨_, _, _, _, _, _⟩ := My.qc6 BK225.out; obtain ⟨_, _, _, _, _, _⟩ := My.qf6 BK225.out; obtain ⟨_, _, _, _, _, _, _⟩ := My.qc7 BK217.out; obtain ⟨_, _, _, _, _, _, _⟩ := My.qf7 BK217.out))
  refine bodyPost_ret (results_cell_row rfl _ _ gb217 64 #[.string t218, .string t219, .int .i64 t220, .int .i64 t221, .int .i64 t222, .int .i64 t223, .bool t224] (0, 0) _ rfl (by (with_reducible repeat (first | refine blk_drewN ?_ _ | refine blk_drew ?_ | refine blk_alloc ?_ _)); refine blk_put (cs := #[.string t218, .string t219, .int .i64 t220, .int .i64 t221, .int .i64 t222, .int .i64 t223, .bool false]) ?_ 6 _ rfl; (with_reducible repeat (first | refine blk_drewN ?_ _ | refine blk_drew ?_ | refine blk_alloc ?_ _)); refine blk_put (cs := #[.string t218, .string t219, .int .i64 t220, .int .i64 t221, .int .i64 t222, .int .i64 0, .bool false]) ?_ 5 _ rfl; (with_reducible repeat (first | refine blk_drewN ?_ _ | refine blk_drew ?_ | refine blk_alloc ?_ _)); refine blk_put (cs := #[.string t218, .string t219, .int .i64 t220, .int .i64 t221, .int .i64 0, .int .i64 0, .bool false]) ?_ 4 _ rfl; (with_reducible repeat (first | refine blk_drewN ?_ _ | refine blk_drew ?_ | refine blk_alloc ?_ _)); refine blk_put (cs := #[.string t218, .string t219, .int .i64 t220, .int .i64 0, .int .i64 0, .int .i64 0, .bool false]) ?_ 3 _ rfl; (with_reducible repeat (first | refine blk_drewN ?_ _ | refine blk_drew ?_ | refine blk_alloc ?_ _)); refine blk_put (cs := #[.string t218, .string t219, .int .i64 0, .int .i64 0, .int .i64 0, .int .i64 0, .bool false]) ?_ 2 _ rfl; (with_reducible repeat (first | refine blk_drewN ?_ _ | refine blk_drew ?_ | refine blk_alloc ?_ _)); refine blk_put (cs := #[.string t218, .string (⟨#[]⟩ : ByteArray), .int .i64 0, .int .i64 0, .int .i64 0, .int .i64 0, .bool false]) ?_ 1 _ rfl; (with_reducible repeat (first | refine blk_drewN ?_ _ | refine blk_drew ?_ | refine blk_alloc ?_ _)); refine blk_put (cs := #[.string (⟨#[]⟩ : ByteArray), .string (⟨#[]⟩ : ByteArray), .int .i64 0, .int .i64 0, .int .i64 0, .int .i64 0, .bool false]) ?_ 0 _ rfl; (with_reducible repeat (first | refine blk_drewN ?_ _ | refine blk_drew ?_ | refine blk_alloc ?_ _)); refine blk_far ?_ NB217_225.out _; (with_reducible repeat (first | refine blk_drewN ?_ _ | refine blk_drew ?_ | refine blk_alloc ?_ _)); refine blk_far ?_ NB217_225.out _; (with_reducible repeat (first | refine blk_drewN ?_ _ | refine blk_drew ?_ | refine blk_alloc ?_ _)); refine blk_far ?_ NB217_225.out _; (with_reducible repeat (first | refine blk_drewN ?_ _ | refine blk_drew ?_ | refine blk_alloc ?_ _)); refine blk_far ?_ NB217_225.out _; (with_reducible repeat (first | refine blk_drewN ?_ _ | refine blk_drew ?_ | refine blk_alloc ?_ _)); refine blk_far ?_ NB217_225.out _; (with_reducible repeat (first | refine blk_drewN ?_ _ | refine blk_drew ?_ | refine blk_alloc ?_ _)); refine blk_far ?_ NB217_225.out _; (with_reducible repeat (first | refine blk_drewN ?_ _ | refine blk_drew ?_ | refine blk_alloc ?_ _)); exact BK217.out) Try.underlying64 rfl (by kernel_rfl)) rfl ?_; exact ⟨My.q1, My.bA⟩

-- NOT PRINTED: function 76 (hist_is_1)

end Go.Proofs.Ytaebmmjhokjdbaa.PM
