-- made by a program of this session (wip/tools/myprint.py over the kit's print) out of the translation; Lean checks it
import Derived.Test.YtpfgmladebgdaaaPM0
import Derived.Test.YtpfgmladebgdaaaPM4
import Derived.Test.YtpfgmladebgdaaaPM20
import Derived.Test.YtpfgmladebgdaaaPM22
namespace Go.Proofs.Ytpfgmladebgdaaa.PM
open Go.RowKit Go.Proofs.YtpfgmladebgdaaaW.PrintWords Go.Proofs.YtpfgmladebgdaaaW.PrintLast Go.Proofs.YtpfgmladebgdaaaW.PrintMore
attribute [local go_sem] max2_int min2_int max_two min_two max_three min_three max_four min_four   -- for this text's walks alone
attribute [local go_sem high] Go.Proofs.Ytpfgmladebgdaaa.My.str_leq Go.Proofs.Ytpfgmladebgdaaa.My.str_gtr Go.Proofs.Ytpfgmladebgdaaa.My.str_geq
set_option linter.unusedVariables false
set_option linter.unusedSimpArgs false

/-! ### ticket_Ahead: function 48 -/
def ticket_Ahead.f (l0 : List (S47)) (a1 : ByteArray) : Option ((List (S47))) := (ticket_Order.f l0).bind fun t304 => ((ticket_Place.f l0 a1).bind fun t307 => (if 0 ≤ (mx 0 t307) then (if (mx 0 t307) ≤ (t304.length : Int) then (some (t304.take ((mx 0 t307) : Int).toNat)) else (none)) else (none)))
set_option maxHeartbeats 80000000 in
set_option maxRecDepth 100000 in
theorem ticket_Ahead.calls (A0 : Option Addr) (c0 : Nat) (l0 : List (S47)) (a1 : ByteArray) (r : List (S47)) (w : World) (hr0 : Kd.C k47 w A0 l0.length l0) (hc0 : l0.length ≤ c0) (h : ticket_Ahead.f l0 a1 = some r) :
    Calls Try.prog 48 #[.slice A0 l0.length c0, .string a1] w fun e w' => ∃ v0_ : Value, e = .returned (v0_) ∧ Kd.R k47 47 w' w.heap.size (fun _ => True) v0_ r ∧ Below w.heap.size w w' := by
  have HR0 := Aside0.mk hr0; have HC0 := Aside0.mk hc0; clear hr0 hc0; have HB := My.m (Below.refl w.heap.size w); have H := h; clear h; unfold ticket_Ahead.f at H; replace H := Option.bind_eq_some_iff.mp H; obtain ⟨t304, A30, H⟩ := H; have A3 := Aside0.mk A30; clear A30; replace H := Option.bind_eq_some_iff.mp H; obtain ⟨t307, A40, H⟩ := H; have A4 := Aside0.mk A40; clear A40; obtain ⟨ji5, hji5⟩ : ∃ j_ : Int, (mx 0 t307) = j_ := ⟨_, rfl⟩; (replace H : (if 0 ≤ (ji5) then (if (ji5) ≤ (t304.length : Int) then (some (t304.take ((ji5) : Int).toNat)) else (none)) else (none)) = some r := by first | (rw [hji5] at H; exact H) | (simp only [hji5] at H ⊢; exact H)); (try rw [hji5] at A3); (try rw [hji5] at A4); (try (have hji5l : 0 ≤ ji5 := by (rw [← hji5]; unfold mx; (repeat' split) <;> omega))); (try (have hji5m : 0 ≤ ji5 := by omega)); have hji5_ : (if 0 < t307 then t307 else 0) = ji5 := hji5
  by_cases c6 : 0 ≤ (ji5)
  · rw [if_pos c6] at H
    have c6b0 := eq_true c6; have c6b1 : decide (0 ≤ (ji5)) = true := decide_eq_true c6; clear c6
    by_cases c7 : (ji5) ≤ (t304.length : Int)
    · rw [if_pos c7] at H
      have c7b0 := eq_true c7; have c7b1 : decide ((ji5) ≤ (t304.length : Int)) = true := decide_eq_true c7; clear c7; obtain ⟨y308, hy308⟩ : ∃ y_ : List (S47), y_ = (t304.take ((ji5) : Int).toNat) := ⟨_, rfl⟩; (replace H : (some y308) = some r := by first | (rw [hy308]; with_reducible exact H) | (have H2_ := (Option.bind_some _ _).symm.trans H; rw [hy308]; with_reducible exact H2_) | (have H2_ := (Option.bind_some _ _).symm.trans H; with_reducible exact H2_) | with_reducible exact H | (rw [hy308]; exact H) | exact H); have Ny308 := Aside0.mk hy308; clear hy308; obtain rfl := Option.some.inj H
      go_enter Try.func48, Try.ntmps48
      go_wp2_with (first | ((with_reducible refine gate_callee (f := 53) rfl ?_); refine goesL_ (some 6) rfl rfl Try.func53 (by kernel_rfl) rfl #[.slice A0 l0.length c0] rfl My.ar ?_; (with_reducible refine (ticket_Order.calls _ _ l0 t304 _ ?side1 ?side2 A3.out).mono ?_); (case side1 => exact My.Ca HR0.out); (case side2 => exact HC0.out); rintro e w8 ⟨v305, rfl, ho0, hb⟩; refine ⟨_, rfl, ?_⟩; have HO306 := My.m (Kd.R_lower ho0 (below_size My.bB)); replace HB := My.m (below_step My.bB hb); (try clear hb); (try clear hb2); (try clear hk); (try clear hi); (try clear ho0)) | ((with_reducible refine gate_callee (f := 54) rfl ?_); refine goesL_ (some 9) rfl rfl Try.func54 (by kernel_rfl) rfl #[.slice A0 l0.length c0, .string a1] rfl My.ar ?_; (with_reducible refine (ticket_Place.calls _ _ l0 a1 t307 _ ?side1 ?side2 A4.out).mono ?_); (case side1 => exact My.Ca (Kd.C_below HR0.out HB.out)); (case side2 => exact HC0.out); rintro e w9 ⟨rfl, hb⟩; refine ⟨_, rfl, ?_⟩; replace HO306 := My.m (Kd.R_below (My.Ra HO306.out) hb); replace HB := My.m (below_step My.bB hb); (try clear hb); (try clear hb2); (try clear hk); (try clear hi); obtain ⟨Ao10, co10, eo10⟩ := Kd.R_slice HO306.out; subst eo10; have q11 : ((ji5) : Int) ≤ ((t304.length : Int) : Int) := of_decide_eq_true My.as; obtain ⟨i011, hi011, _, hsz11, _⟩ := info_parts info47; have hcut11 := cut_to (P := Try.prog) 42 47 .i64 Try.underlying42 hi011 Ao10 t304.length co10 (ji5) (of_decide_eq_true My.as) q11 (Kd.R_reads' HO306.out).2.1; have hr11 := Kd.R_take (m := ((ji5) : Int).toNat) HO306.out (by omega); have hy11 : y308.length = ((ji5) : Int).toNat := (by rw [Ny308.out, List.length_take]; omega); rw [← Ny308.out] at hr11; rw [← hy11] at hr11 hcut11; clear hy11 hi011 hsz11 HO306; have HO310 := Aside0.mk hr11; clear hr11; replace q11 := eq_true q11))
      go_ret
      exact ⟨_, by first | rfl | (simp [errW_none, errW_some] <;> rfl) | (simp only [← hji5]; first | rfl | (simp [errW_none, errW_some] <;> rfl)) | (simp [*, errW_none, errW_some] <;> rfl), My.Ra HO310.out, My.bB⟩
    · exact My.no c7 H
  · exact My.no c6 H

/-! ### ticket_Ready_1: function 50 -/
def ticket_Ready_1.f (a0_0 : ByteArray) (a0_1 : ByteArray) (a0_2 : Int) (a0_3 : Int) (a0_4 : Int) (a0_5 : Int) : Option (Bool) := (ticket_Sign.f 3).bind fun t312 => (some (a0_1.toList == t312.toList))
set_option maxHeartbeats 80000000 in
set_option maxRecDepth 100000 in
theorem ticket_Ready_1.calls (a0_0 : ByteArray) (a0_1 : ByteArray) (a0_2 : Int) (a0_3 : Int) (a0_4 : Int) (a0_5 : Int) (r : Bool) (w : World) (h : ticket_Ready_1.f a0_0 a0_1 a0_2 a0_3 a0_4 a0_5 = some r) :
    Calls Try.prog 50 #[.agg #[.string a0_0, .string a0_1, .int .i64 a0_2, .int .i64 a0_3, .int .i64 a0_4, .int .i64 a0_5]] w fun e w' => e = .returned (.bool r) ∧ Below w.heap.size w w' := by
  have hu47 := Try.underlying47; have HB := My.m (Below.refl w.heap.size w); have H := h; clear h; unfold ticket_Ready_1.f at H; replace H := Option.bind_eq_some_iff.mp H; obtain ⟨t312, A20, H⟩ := H; have A2 := Aside0.mk A20; clear A20; obtain rfl := Option.some.inj H
  go_enter Try.func50, Try.ntmps50
  go_wp2_with (first | ((with_reducible refine gate_dst (N := 1) rfl ?_); refine My.be 1 47 #[.string a0_0, .string a0_1, .int .i64 a0_2, .int .i64 a0_3, .int .i64 a0_4, .int .i64 a0_5] ?_; intro gb311 hg w3 hbox hb; have BK311 := My.m hbox; have GW311 := My.m ((My.nw w hg My.bB)); have GE311 := My.m ((My.nw w hg My.bB)); replace HB := My.m (below_step My.bB hb); clear hb hbox hg; obtain ⟨hcz4_0, hcz4_1, hcz4_2, hcz4_3, hcz4_4, hcz4_5⟩ := My.qc6 BK311.out; obtain ⟨hfz4_0, hfz4_1, hfz4_2, hfz4_3, hfz4_4, hfz4_5⟩ := My.qf6 BK311.out) | (go_at_call 18; (with_reducible refine (ticket_Sign.calls 3 t312 _ A2.out).mono ?_); rintro e w' ⟨rfl, ⟨nd, rfl⟩⟩; (try first | exact ⟨rfl, _, World.drewN_drewN _ _ _⟩ | exact ⟨rfl, _, Eq.trans (World.drewN_drewN _ _ _) (congrArg (World.drewN _) (Nat.add_assoc _ _ _))⟩)))
  repeat (go_quiet (first | ((with_reducible refine gate_dst (N := 1) rfl ?_); refine My.be 1 47 #[.string a0_0, .string a0_1, .int .i64 a0_2, .int .i64 a0_3, .int .i64 a0_4, .int .i64 a0_5] ?_; intro gb311 hg w3 hbox hb; have BK311 := My.m hbox; have GW311 := My.m ((My.nw w hg My.bB)); have GE311 := My.m ((My.nw w hg My.bB)); replace HB := My.m (below_step My.bB hb); clear hb hbox hg; obtain ⟨hcz4_0, hcz4_1, hcz4_2, hcz4_3, hcz4_4, hcz4_5⟩ := My.qc6 BK311.out; obtain ⟨hfz4_0, hfz4_1, hfz4_2, hfz4_3, hfz4_4, hfz4_5⟩ := My.qf6 BK311.out) | (go_at_call 18; (with_reducible refine (ticket_Sign.calls 3 t312 _ A2.out).mono ?_); rintro e w' ⟨rfl, ⟨nd, rfl⟩⟩; (try first | exact ⟨rfl, _, World.drewN_drewN _ _ _⟩ | exact ⟨rfl, _, Eq.trans (World.drewN_drewN _ _ _) (congrArg (World.drewN _) (Nat.add_assoc _ _ _))⟩))); try go_wp2_with (first | ((with_reducible refine gate_dst (N := 1) rfl ?_); refine My.be 1 47 #[.string a0_0, .string a0_1, .int .i64 a0_2, .int .i64 a0_3, .int .i64 a0_4, .int .i64 a0_5] ?_; intro gb311 hg w3 hbox hb; have BK311 := My.m hbox; have GW311 := My.m ((My.nw w hg My.bB)); have GE311 := My.m ((My.nw w hg My.bB)); replace HB := My.m (below_step My.bB hb); clear hb hbox hg; obtain ⟨hcz4_0, hcz4_1, hcz4_2, hcz4_3, hcz4_4, hcz4_5⟩ := My.qc6 BK311.out; obtain ⟨hfz4_0, hfz4_1, hfz4_2, hfz4_3, hfz4_4, hfz4_5⟩ := My.qf6 BK311.out) | (go_at_call 18; (with_reducible refine (ticket_Sign.calls 3 t312 _ A2.out).mono ?_); rintro e w' ⟨rfl, ⟨nd, rfl⟩⟩; (try first | exact ⟨rfl, _, World.drewN_drewN _ _ _⟩ | exact ⟨rfl, _, Eq.trans (World.drewN_drewN _ _ _) (congrArg (World.drewN _) (Nat.add_assoc _ _ _))⟩))))
  go_ret
  exact ⟨My.q1, My.bA⟩

end Go.Proofs.Ytpfgmladebgdaaa.PM
