-- made by a program of this session (wip/tools/myprint.py over the kit's print) out of the translation; Lean checks it
import Derived.Test.YtdehdhkhcilckaaPM0
import Derived.Test.YtdehdhkhcilckaaPM5
namespace Go.Proofs.Ytdehdhkhcilckaa.PM
open Go.RowKit Go.Proofs.YtdehdhkhcilckaaW.PrintWords Go.Proofs.YtdehdhkhcilckaaW.PrintLast Go.Proofs.YtdehdhkhcilckaaW.PrintMore
attribute [local go_sem] max2_int min2_int max_two min_two max_three min_three max_four min_four   -- for this text's walks alone
attribute [local go_sem high] Go.Proofs.Ytdehdhkhcilckaa.My.str_leq Go.Proofs.Ytdehdhkhcilckaa.My.str_gtr Go.Proofs.Ytdehdhkhcilckaa.My.str_geq
set_option linter.unusedVariables false
set_option linter.unusedSimpArgs false

/-! ### key_Name: function 17 -/
def key_Name.f (a0 : ByteArray) : Option (Bool) := (key_each_30.f a0 12 ()).bind fun t104 => (some t104)
set_option maxHeartbeats 80000000 in
set_option maxRecDepth 100000 in
theorem key_Name.calls (a0 : ByteArray) (r : Bool) (w : World) (h : key_Name.f a0 = some r) :
    Calls Try.prog 17 #[.string a0] w fun e w' => e = .returned (.bool r) ∧ Below w.heap.size w w' := by
  have HB := My.m (Below.refl w.heap.size w); have H := h; clear h; unfold key_Name.f at H; replace H := Option.bind_eq_some_iff.mp H; obtain ⟨t104, A20, H⟩ := H; have A2 := Aside0.mk A20; clear A20; obtain rfl := Option.some.inj H
  go_enter Try.func17, Try.ntmps17
  go_wp2_with (first | ((with_reducible refine gate_callee (f := 29) rfl ?_); refine goesL_ (some 4) rfl rfl Try.func29 (by kernel_rfl) rfl #[.string a0, .int .i64 12, .func (.func 30) #[] #[]] rfl My.ar ?_; (with_reducible refine (key_each_30.calls a0 12 () t104 _ A2.out).mono ?_); rintro e w3 ⟨rfl, hb⟩; refine ⟨_, rfl, ?_⟩; have n0_ := My.m (below_step My.bB hb); clear HB; have HB := n0_; clear n0_; (try clear hb); (try clear hb2); (try clear hk); (try clear hi)))
  go_ret
  exact ⟨My.q1, My.bB⟩

/-! ### party_Start: function 7 -/
def party_Start.f (a0 : ByteArray) (a1 : Int) : Option (Int × ByteArray × Int × ByteArray × ByteArray × Int × Int × Int × Int × Int × Bool) := (key_Name.f a0).bind fun t106 => (if t106 = true then (if a1 < 1 then (some (0, (⟨#[]⟩ : ByteArray), 0, (⟨#[]⟩ : ByteArray), (⟨#[]⟩ : ByteArray), 0, 0, 0, 0, 0, false)) else (if a1 > 100 then (some (0, (⟨#[]⟩ : ByteArray), 0, (⟨#[]⟩ : ByteArray), (⟨#[]⟩ : ByteArray), 0, 0, 0, 0, 0, false)) else (some (6, a0, a1, (⟨#[]⟩ : ByteArray), (⟨#[]⟩ : ByteArray), 0, 1, 0, 0, 0, true)))) else (some (0, (⟨#[]⟩ : ByteArray), 0, (⟨#[]⟩ : ByteArray), (⟨#[]⟩ : ByteArray), 0, 0, 0, 0, 0, false)))
set_option maxHeartbeats 80000000 in
set_option maxRecDepth 100000 in
theorem party_Start.calls (a0 : ByteArray) (a1 : Int) (r1 : Int) (r2 : ByteArray) (r3 : Int) (r4 : ByteArray) (r5 : ByteArray) (r6 : Int) (r7 : Int) (r8 : Int) (r9 : Int) (r10 : Int) (r11 : Bool) (w : World) (h : party_Start.f a0 a1 = some (r1, r2, r3, r4, r5, r6, r7, r8, r9, r10, r11)) :
    Calls Try.prog 7 #[.string a0, .int .i64 a1] w fun e w' => e = .returned (.tuple #[.agg #[.int .i64 r1, .string r2, .int .i64 r3, .string r4, .string r5, .int .i64 r6, .int .i64 r7, .int .i64 r8, .int .i64 r9, .int .i64 r10], .bool r11]) ∧ Below w.heap.size w w' := by
  have hu24 := Try.underlying24; have HB := My.m (Below.refl w.heap.size w); have H := h; clear h; unfold party_Start.f at H; replace H := Option.bind_eq_some_iff.mp H; obtain ⟨t106, A30, H⟩ := H; have A3 := Aside0.mk A30; clear A30
  by_cases c4 : t106 = true
  · subst c4
    rw [if_pos rfl] at H
    by_cases c5 : a1 < 1
    · rw [if_pos c5] at H
      have c5b0 := decide_eq_true c5; clear c5; simp only [Option.some.injEq, Prod.mk.injEq] at H; obtain ⟨rfl, rfl, rfl, rfl, rfl, rfl, rfl, rfl, rfl, rfl, rfl⟩ := H
      go_enter Try.func7, Try.ntmps7
      go_wp2_with (first | ((with_reducible refine gate_dst (N := 4) rfl ?_); refine My.be 4 24 #[.int .i64 0, .string (⟨#[]⟩ : ByteArray), .int .i64 0, .string (⟨#[]⟩ : ByteArray), .string (⟨#[]⟩ : ByteArray), .int .i64 0, .int .i64 0, .int .i64 0, .int .i64 0, .int .i64 0] ?_; intro gb105 hg w6 hbox hb; have BK105 := My.m hbox; have GW105 := My.m ((My.nw w hg My.bB)); have GE105 := My.m ((My.nw w hg My.bB)); replace HB := My.m (below_step My.bB hb); clear hb hbox hg) | ((with_reducible refine gate_callee (f := 17) rfl ?_); refine goesL_ (some 7) rfl rfl Try.func17 (by kernel_rfl) rfl #[.string a0] rfl My.ar ?_; (with_reducible refine (key_Name.calls a0 true _ A3.out).mono ?_); rintro e w7 ⟨rfl, hb⟩; refine ⟨_, rfl, ?_⟩; replace BK105 := My.m (My.kb BK105.out hb); replace HB := My.m (below_step My.bA hb); (try clear hb); (try clear hb2); (try clear hk); (try clear hi); obtain ⟨_, _, _, _, _, _, _, _, _, _⟩ := My.qc10 BK105.out; obtain ⟨_, _, _, _, _, _, _, _, _, _⟩ := My.qf10 BK105.out))
      refine bodyPost_ret (results_ct rfl _ _ gb105 24 #[.int .i64 0, .string (⟨#[]⟩ : ByteArray), .int .i64 0, .string (⟨#[]⟩ : ByteArray), .string (⟨#[]⟩ : ByteArray), .int .i64 0, .int .i64 0, .int .i64 0, .int .i64 0, .int .i64 0] (0, 0) _ rfl (My.qp10 BK105.out) Try.underlying24 rfl (by kernel_rfl)) rfl ?_; exact ⟨My.q1, My.bA⟩
    · rw [if_neg c5] at H
      have c5b0 := decide_eq_false c5; clear c5
      by_cases c9 : a1 > 100
      · rw [if_pos c9] at H
        have c9b0 := decide_eq_true c9; clear c9; simp only [Option.some.injEq, Prod.mk.injEq] at H; obtain ⟨rfl, rfl, rfl, rfl, rfl, rfl, rfl, rfl, rfl, rfl, rfl⟩ := H
        go_enter Try.func7, Try.ntmps7
        go_wp2_with (first | ((with_reducible refine gate_dst (N := 4) rfl ?_); refine My.be 4 24 #[.int .i64 0, .string (⟨#[]⟩ : ByteArray), .int .i64 0, .string (⟨#[]⟩ : ByteArray), .string (⟨#[]⟩ : ByteArray), .int .i64 0, .int .i64 0, .int .i64 0, .int .i64 0, .int .i64 0] ?_; intro gb105 hg w10 hbox hb; have BK105 := My.m hbox; have GW105 := My.m ((My.nw w hg My.bB)); have GE105 := My.m ((My.nw w hg My.bB)); replace HB := My.m (below_step My.bB hb); clear hb hbox hg) | ((with_reducible refine gate_callee (f := 17) rfl ?_); refine goesL_ (some 7) rfl rfl Try.func17 (by kernel_rfl) rfl #[.string a0] rfl My.ar ?_; (with_reducible refine (key_Name.calls a0 true _ A3.out).mono ?_); rintro e w11 ⟨rfl, hb⟩; refine ⟨_, rfl, ?_⟩; replace BK105 := My.m (My.kb BK105.out hb); replace HB := My.m (below_step My.bA hb); (try clear hb); (try clear hb2); (try clear hk); (try clear hi); obtain ⟨_, _, _, _, _, _, _, _, _, _⟩ := My.qc10 BK105.out; obtain ⟨_, _, _, _, _, _, _, _, _, _⟩ := My.qf10 BK105.out))
        refine bodyPost_ret (results_ct rfl _ _ gb105 24 #[.int .i64 0, .string (⟨#[]⟩ : ByteArray), .int .i64 0, .string (⟨#[]⟩ : ByteArray), .string (⟨#[]⟩ : ByteArray), .int .i64 0, .int .i64 0, .int .i64 0, .int .i64 0, .int .i64 0] (0, 0) _ rfl (My.qp10 BK105.out) Try.underlying24 rfl (by kernel_rfl)) rfl ?_; exact ⟨My.q1, My.bA⟩
      · rw [if_neg c9] at H
        have c9b0 := decide_eq_false c9; clear c9; simp only [Option.some.injEq, Prod.mk.injEq] at H; obtain ⟨rfl, rfl, rfl, rfl, rfl, rfl, rfl, rfl, rfl, rfl, rfl⟩ := H
        go_enter Try.func7, Try.ntmps7
        go_wp2_with (first | ((with_reducible refine gate_dst (N := 4) rfl ?_); refine My.be 4 24 #[.int .i64 0, .string (⟨#[]⟩ : ByteArray), .int .i64 0, .string (⟨#[]⟩ : ByteArray), .string (⟨#[]⟩ : ByteArray), .int .i64 0, .int .i64 0, .int .i64 0, .int .i64 0, .int .i64 0] ?_; intro gb105 hg w13 hbox hb; have BK105 := My.m hbox; have GW105 := My.m ((My.nw w hg My.bB)); have GE105 := My.m ((My.nw w hg My.bB)); replace HB := My.m (below_step My.bB hb); clear hb hbox hg) | ((with_reducible refine gate_callee (f := 17) rfl ?_); refine goesL_ (some 7) rfl rfl Try.func17 (by kernel_rfl) rfl #[.string a0] rfl My.ar ?_; (with_reducible refine (key_Name.calls a0 true _ A3.out).mono ?_); rintro e w14 ⟨rfl, hb⟩; refine ⟨_, rfl, ?_⟩; replace BK105 := My.m (My.kb BK105.out hb); replace HB := My.m (below_step My.bA hb); (try clear hb); (try clear hb2); (try clear hk); (try clear hi); obtain ⟨_, _, _, _, _, _, _, _, _, _⟩ := My.qc10 BK105.out; obtain ⟨_, _, _, _, _, _, _, _, _, _⟩ := My.qf10 BK105.out))
        refine bodyPost_ret (results_ct rfl _ _ gb105 24 #[.int .i64 6, .string a0, .int .i64 a1, .string (⟨#[]⟩ : ByteArray), .string (⟨#[]⟩ : ByteArray), .int .i64 0, .int .i64 1, .int .i64 0, .int .i64 0, .int .i64 0] (0, 0) _ rfl (My.qp10 BK105.out) Try.underlying24 rfl (by kernel_rfl)) rfl ?_; exact ⟨My.q1, My.bA⟩
  · replace c4 := Bool.eq_false_iff.mpr c4
    subst c4; rw [if_neg (show ¬ (false = true) by decide)] at H; simp only [Option.some.injEq, Prod.mk.injEq] at H; obtain ⟨rfl, rfl, rfl, rfl, rfl, rfl, rfl, rfl, rfl, rfl, rfl⟩ := H
    go_enter Try.func7, Try.ntmps7
    go_wp2_with (first | ((with_reducible refine gate_dst (N := 4) rfl ?_); refine My.be 4 24 #[.int .i64 0, .string (⟨#[]⟩ : ByteArray), .int .i64 0, .string (⟨#[]⟩ : ByteArray), .string (⟨#[]⟩ : ByteArray), .int .i64 0, .int .i64 0, .int .i64 0, .int .i64 0, .int .i64 0] ?_; intro gb105 hg w16 hbox hb; have BK105 := My.m hbox; have GW105 := My.m ((My.nw w hg My.bB)); have GE105 := My.m ((My.nw w hg My.bB)); replace HB := My.m (below_step My.bB hb); clear hb hbox hg) | ((with_reducible refine gate_callee (f := 17) rfl ?_); refine goesL_ (some 7) rfl rfl Try.func17 (by kernel_rfl) rfl #[.string a0] rfl My.ar ?_; (with_reducible refine (key_Name.calls a0 false _ A3.out).mono ?_); rintro e w17 ⟨rfl, hb⟩; refine ⟨_, rfl, ?_⟩; replace BK105 := My.m (My.kb BK105.out hb); replace HB := My.m (below_step My.bA hb); (try clear hb); (try clear hb2); (try clear hk); (try clear hi); obtain ⟨_, _, _, _, _, _, _, _, _, _⟩ := My.qc10 BK105.out; obtain ⟨_, _, _, _, _, _, _, _, _, _⟩ := My.qf10 BK105.out))
    refine bodyPost_ret (results_ct rfl _ _ gb105 24 #[.int .i64 0, .string (⟨#[]⟩ : ByteArray), .int .i64 0, .string (⟨#[]⟩ : ByteArray), .string (⟨#[]⟩ : ByteArray), .int .i64 0, .int .i64 0, .int .i64 0, .int .i64 0, .int .i64 0] (0, 0) _ rfl (My.qp10 BK105.out) Try.underlying24 rfl (by kernel_rfl)) rfl ?_; exact ⟨My.q1, My.bA⟩

end Go.Proofs.Ytdehdhkhcilckaa.PM
