-- made by a program of this session (wip/tools/myprint.py over the kit's print) out of the translation; Lean checks it
import Derived.Test.YtdehdhkhcilckaaPM0
import Derived.Test.YtdehdhkhcilckaaPM8
import Derived.Test.YtdehdhkhcilckaaPM11
namespace Go.Proofs.Ytdehdhkhcilckaa.PM
open Go.RowKit Go.Proofs.YtdehdhkhcilckaaW.PrintWords Go.Proofs.YtdehdhkhcilckaaW.PrintLast Go.Proofs.YtdehdhkhcilckaaW.PrintMore
attribute [local go_sem] max2_int min2_int max_two min_two max_three min_three max_four min_four   -- for this text's walks alone
attribute [local go_sem high] Go.Proofs.Ytdehdhkhcilckaa.My.str_leq Go.Proofs.Ytdehdhkhcilckaa.My.str_gtr Go.Proofs.Ytdehdhkhcilckaa.My.str_geq
set_option linter.unusedVariables false
set_option linter.unusedSimpArgs false

/-! ### party_Guests: function 11 -/
def party_Guests.l0 : Nat → ByteArray → Int → List (S43) → Int → Int → Option (Int)
  | 0, _, _, _, _, _ => none
  | k + 1, x5, x7, x19, x20, x21 => if x21 < x20 then (if 0 ≤ x21 then (if x21 < (x19.length : Int) then ((key_Id.f x5 ((rd_T43 x19 x21).f0)).bind fun bt181 => (if bt181.2 = true then (party_Guests.l0 k x5 (wrap64 (x7 + 1)) x19 x20 (wrap64 (x21 + 1))) else (party_Guests.l0 k x5 x7 x19 x20 (wrap64 (x21 + 1))))) else (none)) else (none)) else (some x7)
def party_Guests.f (k : Nat) (l0 : List (S43)) (a1 : ByteArray) : Option (Int) := (key_Prefix.f 6 a1).bind fun bt177 => (if bt177.2 = true then (party_Guests.l0 k bt177.1 0 l0 (l0.length : Int) 0) else (some 0))
theorem party_Guests.mono_l : ∀ k, (∀ y0 y1 y2 y3 y4, LeO (party_Guests.l0 k y0 y1 y2 y3 y4) (party_Guests.l0 (k + 1) y0 y1 y2 y3 y4))
  | 0 => fun _ _ _ _ _ r h => by simp [party_Guests.l0] at h
  | k + 1 => by
    have ih0 := party_Guests.mono_l k
    · intro y0 y1 y2 y3 y4
      unfold party_Guests.l0
      exact My.mono_
theorem party_Guests.mono : ∀ a0 a1 k, LeO (party_Guests.f k a0 a1) (party_Guests.f (k + 1) a0 a1) := by
  intro a0 a1 k
  have ih0 := party_Guests.mono_l k
  unfold party_Guests.f
  exact My.mono_
set_option maxHeartbeats 80000000 in
set_option maxRecDepth 100000 in
theorem party_Guests.calls (k : Nat) (A0 : Option Addr) (c0 : Nat) (l0 : List (S43)) (a1 : ByteArray) (r : Int) (w : World) (hr0 : Kd.C k43 w A0 l0.length l0) (hc0 : l0.length ≤ c0) (h : party_Guests.f k l0 a1 = some r) :
    Calls Try.prog 11 #[.slice A0 l0.length c0, .string a1] w fun e w' => e = .returned (.int .i64 r) ∧ Below w.heap.size w w' := by
  have hu43 := Try.underlying43; have HR0 := Aside0.mk hr0; have HC0 := Aside0.mk hc0; clear hr0 hc0; have HB := My.m (Below.refl w.heap.size w); have H := h; clear h; unfold party_Guests.f at H; replace H := Option.bind_eq_some_iff.mp H; obtain ⟨⟨t177, t178⟩, A30, H⟩ := H; dsimp only at H; have A3 := Aside0.mk A30; clear A30
  by_cases c4 : t178 = true
  · subst c4
    rw [if_pos rfl] at H; have H' := Aside0.mk H; clear H
    go_enter Try.func11, Try.ntmps11
    go_wp2_with (first | ((with_reducible refine gate_callee (f := 23) rfl ?_); refine goesL_ (some 14) rfl rfl Try.func23 (by kernel_rfl) rfl #[.int .i64 6, .string a1] rfl My.ar ?_; (with_reducible refine (key_Prefix.calls 6 a1 t177 true _ A3.out).mono ?_); rintro e w5 ⟨rfl, hb⟩; refine ⟨_, rfl, ?_⟩; have n0_ := My.m (below_step My.bB hb); clear HB; have HB := n0_; clear n0_; (try clear hb); (try clear hb2); (try clear hk); (try clear hi)))
    go_loopg [7, 21] k (fun kq v7 v21 w' => ∃ (x7_1 : Int) (x21_1 : Int), v7 = .int .i64 x7_1 ∧ v21 = .int .i64 x21_1 ∧ Aside0 (party_Guests.l0 kq t177 x7_1 l0 (l0.length : Int) x21_1 = some r) ∧ Aside0 (kq ≤ k) ∧ Aside0 (Below w.heap.size w w'))
    case atStart => exact ⟨(0), (0), My.q0, My.q0, H', ⟨Nat.le_refl _⟩, ⟨My.bB⟩⟩
    case round =>
      clear H'; (try clear c1); (try clear c2); (try clear p2); (try clear c4); obtain ⟨x7_1, x21_1, rfl, rfl, HA, HK1, HB⟩ := hrel
      cases gk with
      | zero => exact absurd HA.out (by simp [party_Guests.l0])
      | succ k1 =>
        have H := HA.out; clear HA; simp only [party_Guests.l0] at H
        by_cases c6 : x21_1 < (l0.length : Int)
        · rw [if_pos c6] at H
          have c6b0 := decide_eq_true c6; clear c6
          by_cases c7 : 0 ≤ x21_1
          · rw [if_pos c7] at H
            have c7b0 := decide_eq_true c7; clear c7
            by_cases c8 : x21_1 < (l0.length : Int)
            · rw [if_pos c8] at H
              have c8b0 := decide_eq_true c8; clear c8; replace H := Option.bind_eq_some_iff.mp H; obtain ⟨⟨t181, t182⟩, A90, H⟩ := H; dsimp only at H; have A9 := Aside0.mk A90; clear A90
              by_cases c10 : t182 = true
              · subst c10
                rw [if_pos rfl] at H; have H' := Aside0.mk H; clear H; have p179 : 0 ≤ (x21_1 : Int) := of_decide_eq_true My.as; have q179 : x21_1 < (l0.length : Int) := of_decide_eq_true My.as; obtain ⟨ad179, e179, hx179_0, hx179_1, hx179_2, hx179_3, hx179_4, hx179_5⟩ := at_T43 HR0.out x21_1 p179 q179; cases e179; replace hx179_0 := My.up HB.out hx179_0; replace hx179_1 := My.up HB.out hx179_1; replace hx179_2 := My.up HB.out hx179_2; replace hx179_3 := My.up HB.out hx179_3; replace hx179_4 := My.up HB.out hx179_4; replace hx179_5 := My.up HB.out hx179_5; replace p179 := eq_true p179; replace q179 := eq_true q179
                go_wp2_with (first | ((with_reducible refine gate_dst (N := 9) rfl ?_); refine My.be 9 43 #[.string (⟨#[]⟩ : ByteArray), .string (⟨#[]⟩ : ByteArray), .int .i64 0, .int .i64 0, .int .i64 0, .int .i64 0] ?_; intro gb180 hg w11 hbox hb; have BK180 := My.m hbox; have GW180 := My.m ((My.nw w hg My.bB)); have GE180 := My.m ((My.nw w hg My.bB)); replace HB := My.m (below_step My.bB hb); clear hb hbox hg; obtain ⟨_, _, _, _, _, _⟩ := My.qc6 BK180.out; obtain ⟨_, _, _, _, _, _⟩ := My.qf6 BK180.out) | ((with_reducible refine gate_callee (f := 24) rfl ?_); refine goesL_ (some 29) rfl rfl Try.func24 (by kernel_rfl) rfl #[.string t177, .string ((rd_T43 l0 x21_1).f0)] rfl My.ar ?_; (with_reducible refine (key_Id.calls t177 ((rd_T43 l0 x21_1).f0) t181 true _ A9.out).mono ?_); rintro e w13 ⟨rfl, hb⟩; refine ⟨_, rfl, ?_⟩; replace BK180 := My.m (blk_below (My.qp6 BK180.out) hb); replace HB := My.m (below_step My.bA hb); (try clear hb); (try clear hb2); (try clear hk); (try clear hi)))
                go_roundg k1
                case measure => have := HK1.out; omega
                case rel => exact ⟨(wrap64 (x7_1 + 1)), (wrap64 (x21_1 + 1)), My.q0, My.q0, H', ⟨by have := HK1.out; omega⟩, ⟨My.bA⟩⟩
              · replace c10 := Bool.eq_false_iff.mpr c10
                subst c10; rw [if_neg (show ¬ (false = true) by decide)] at H; have H' := Aside0.mk H; clear H; have p179 : 0 ≤ (x21_1 : Int) := of_decide_eq_true My.as; have q179 : x21_1 < (l0.length : Int) := of_decide_eq_true My.as; obtain ⟨ad179, e179, hx179_0, hx179_1, hx179_2, hx179_3, hx179_4, hx179_5⟩ := at_T43 HR0.out x21_1 p179 q179; cases e179; replace hx179_0 := My.up HB.out hx179_0; replace hx179_1 := My.up HB.out hx179_1; replace hx179_2 := My.up HB.out hx179_2; replace hx179_3 := My.up HB.out hx179_3; replace hx179_4 := My.up HB.out hx179_4; replace hx179_5 := My.up HB.out hx179_5; replace p179 := eq_true p179; replace q179 := eq_true q179
                go_wp2_with (first | ((with_reducible refine gate_dst (N := 9) rfl ?_); refine My.be 9 43 #[.string (⟨#[]⟩ : ByteArray), .string (⟨#[]⟩ : ByteArray), .int .i64 0, .int .i64 0, .int .i64 0, .int .i64 0] ?_; intro gb180 hg w14 hbox hb; have BK180 := My.m hbox; have GW180 := My.m ((My.nw w hg My.bB)); have GE180 := My.m ((My.nw w hg My.bB)); replace HB := My.m (below_step My.bB hb); clear hb hbox hg; obtain ⟨_, _, _, _, _, _⟩ := My.qc6 BK180.out; obtain ⟨_, _, _, _, _, _⟩ := My.qf6 BK180.out) | ((with_reducible refine gate_callee (f := 24) rfl ?_); refine goesL_ (some 29) rfl rfl Try.func24 (by kernel_rfl) rfl #[.string t177, .string ((rd_T43 l0 x21_1).f0)] rfl My.ar ?_; (with_reducible refine (key_Id.calls t177 ((rd_T43 l0 x21_1).f0) t181 false _ A9.out).mono ?_); rintro e w16 ⟨rfl, hb⟩; refine ⟨_, rfl, ?_⟩; replace BK180 := My.m (blk_below (My.qp6 BK180.out) hb); replace HB := My.m (below_step My.bA hb); (try clear hb); (try clear hb2); (try clear hk); (try clear hi)))
                go_roundg k1
                case measure => have := HK1.out; omega
                case rel => exact ⟨(x7_1), (wrap64 (x21_1 + 1)), My.q0, My.q0, H', ⟨by have := HK1.out; omega⟩, ⟨My.bA⟩⟩
            · exact My.no c8 H
          · exact My.no c7 H
        · rw [if_neg c6] at H
          have c6b0 := decide_eq_false c6; clear c6; obtain rfl := Option.some.inj H
          go_wp2
          go_ret
          exact ⟨My.q1, My.bB⟩
  · replace c4 := Bool.eq_false_iff.mpr c4
    subst c4; rw [if_neg (show ¬ (false = true) by decide)] at H; obtain rfl := Option.some.inj H
    go_enter Try.func11, Try.ntmps11
    go_wp2_with (first | ((with_reducible refine gate_callee (f := 23) rfl ?_); refine goesL_ (some 14) rfl rfl Try.func23 (by kernel_rfl) rfl #[.int .i64 6, .string a1] rfl My.ar ?_; (with_reducible refine (key_Prefix.calls 6 a1 t177 false _ A3.out).mono ?_); rintro e w17 ⟨rfl, hb⟩; refine ⟨_, rfl, ?_⟩; have n0_ := My.m (below_step My.bB hb); clear HB; have HB := n0_; clear n0_; (try clear hb); (try clear hb2); (try clear hk); (try clear hi)))
    go_ret
    exact ⟨My.q1, My.bB⟩

/-! ### key_Flag: function 48 -/
def key_Flag.f (a0 : ByteArray) : Option (ByteArray × Bool) := (key_Prefix.f 6 a0).bind fun bt183 => (if bt183.2 = true then (if bt183.1.size + 4 ≤ 9223372036854775807 then (some (bt183.1 ++ (⟨#[111, 112, 101, 110]⟩ : ByteArray), true)) else (none)) else (some ((⟨#[]⟩ : ByteArray), false)))
set_option maxHeartbeats 80000000 in
set_option maxRecDepth 100000 in
theorem key_Flag.calls (a0 : ByteArray) (r1 : ByteArray) (r2 : Bool) (w : World) (h : key_Flag.f a0 = some (r1, r2)) :
    Calls Try.prog 48 #[.string a0] w fun e w' => e = .returned (.tuple #[.string r1, .bool r2]) ∧ Below w.heap.size w w' := by
  have HB := My.m (Below.refl w.heap.size w); have H := h; clear h; unfold key_Flag.f at H; replace H := Option.bind_eq_some_iff.mp H; obtain ⟨⟨t183, t184⟩, A20, H⟩ := H; dsimp only at H; have A2 := Aside0.mk A20; clear A20
  by_cases c3 : t184 = true
  · subst c3
    rw [if_pos rfl] at H
    by_cases c4 : t183.size + 4 ≤ 9223372036854775807
    · rw [if_pos c4] at H
      have c4b0 := eq_true c4; have c4b1 : decide (t183.size + 4 ≤ 9223372036854775807) = true := decide_eq_true c4; (try have c4b2 : (9223372036854775807 < t183.size + 4) = False := eq_false (Nat.not_lt.2 c4)); simp only [Option.some.injEq, Prod.mk.injEq] at H; obtain ⟨rfl, rfl⟩ := H
      go_enter Try.func48, Try.ntmps48
      go_wp2_with (first | ((with_reducible refine gate_callee (f := 23) rfl ?_); refine goesL_ (some 8) rfl rfl Try.func23 (by kernel_rfl) rfl #[.int .i64 6, .string a0] rfl My.ar ?_; (with_reducible refine (key_Prefix.calls 6 a0 t183 true _ A2.out).mono ?_); rintro e w5 ⟨rfl, hb⟩; refine ⟨_, rfl, ?_⟩; have n0_ := My.m (below_step My.bB hb); clear HB; have HB := n0_; clear n0_; (try clear hb); (try clear hb2); (try clear hk); (try clear hi)))
      go_ret2
      exact ⟨My.q1, My.bB⟩
    · exact My.no c4 H
  · replace c3 := Bool.eq_false_iff.mpr c3
    subst c3; rw [if_neg (show ¬ (false = true) by decide)] at H; simp only [Option.some.injEq, Prod.mk.injEq] at H; obtain ⟨rfl, rfl⟩ := H
    go_enter Try.func48, Try.ntmps48
    go_wp2_with (first | ((with_reducible refine gate_callee (f := 23) rfl ?_); refine goesL_ (some 8) rfl rfl Try.func23 (by kernel_rfl) rfl #[.int .i64 6, .string a0] rfl My.ar ?_; (with_reducible refine (key_Prefix.calls 6 a0 t183 false _ A2.out).mono ?_); rintro e w6 ⟨rfl, hb⟩; refine ⟨_, rfl, ?_⟩; have n0_ := My.m (below_step My.bB hb); clear HB; have HB := n0_; clear n0_; (try clear hb); (try clear hb2); (try clear hk); (try clear hi)))
    go_ret2
    exact ⟨My.q1, My.bB⟩

-- NOT PRINTED: function 63 (hist_is_1)

end Go.Proofs.Ytdehdhkhcilckaa.PM
