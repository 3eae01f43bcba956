-- made by a program of this session (wip/tools/myprint.py over the kit's print) out of the translation; Lean checks it
import Derived.Test.YtpfgmladebgdaaaPM0
import Derived.Test.YtpfgmladebgdaaaPM11
namespace Go.Proofs.Ytpfgmladebgdaaa.PM
open Go.RowKit Go.Proofs.YtpfgmladebgdaaaW.PrintWords Go.Proofs.YtpfgmladebgdaaaW.PrintLast Go.Proofs.YtpfgmladebgdaaaW.PrintMore
attribute [local go_sem] max2_int min2_int max_two min_two max_three min_three max_four min_four   -- for this text's walks alone
attribute [local go_sem high] Go.Proofs.Ytpfgmladebgdaaa.My.str_leq Go.Proofs.Ytpfgmladebgdaaa.My.str_gtr Go.Proofs.Ytpfgmladebgdaaa.My.str_geq
set_option linter.unusedVariables false
set_option linter.unusedSimpArgs false

/-! ### hist_Find: function 41 -/
def hist_Find.f (l0 : List (S47)) (a1 : ByteArray) : Option (ByteArray × ByteArray × Int × Int × Int × Int × Bool) := (hist_is.f a1).bind fun t248 => ((hist_is_ix.f l0 t248).bind fun t249 => (if t249 < 0 then (some ((⟨#[]⟩ : ByteArray), (⟨#[]⟩ : ByteArray), 0, 0, 0, 0, false)) else (if 0 ≤ t249 then (if t249 < (l0.length : Int) then (some ((rd_T47 l0 t249).f0, (rd_T47 l0 t249).f1, (rd_T47 l0 t249).f2, (rd_T47 l0 t249).f3, (rd_T47 l0 t249).f4, (rd_T47 l0 t249).f5, true)) else (none)) else (none))))
set_option maxHeartbeats 80000000 in
set_option maxRecDepth 100000 in
theorem hist_Find.calls (A0 : Option Addr) (c0 : Nat) (l0 : List (S47)) (a1 : ByteArray) (r1 : ByteArray) (r2 : ByteArray) (r3 : Int) (r4 : Int) (r5 : Int) (r6 : Int) (r7 : Bool) (w : World) (hr0 : Kd.C k47 w A0 l0.length l0) (hc0 : l0.length ≤ c0) (h : hist_Find.f l0 a1 = some (r1, r2, r3, r4, r5, r6, r7)) :
    Calls Try.prog 41 #[.slice A0 l0.length c0, .string a1] w fun e w' => e = .returned (.tuple #[.agg #[.string r1, .string r2, .int .i64 r3, .int .i64 r4, .int .i64 r5, .int .i64 r6], .bool r7]) ∧ Below w.heap.size w w' := by
  have hu47 := Try.underlying47; have HR0 := Aside0.mk hr0; have HC0 := Aside0.mk hc0; clear hr0 hc0; have HB := My.m (Below.refl w.heap.size w); have H := h; clear h; unfold hist_Find.f at H; replace H := Option.bind_eq_some_iff.mp H; obtain ⟨t248, A30, H⟩ := H; have A3 := Aside0.mk A30; clear A30; replace H := Option.bind_eq_some_iff.mp H; obtain ⟨t249, A40, H⟩ := H; have A4 := Aside0.mk A40; clear A40
  by_cases c5 : t249 < 0
  · rw [if_pos c5] at H
    have c5b0 := decide_eq_true c5; clear c5; simp only [Option.some.injEq, Prod.mk.injEq] at H; obtain ⟨rfl, rfl, rfl, rfl, rfl, rfl, rfl⟩ := H
    go_enter Try.func41, Try.ntmps41
    go_wp2_with (first | ((with_reducible refine gate_dst (N := 4) rfl ?_); refine My.be 4 47 #[.string (⟨#[]⟩ : ByteArray), .string (⟨#[]⟩ : ByteArray), .int .i64 0, .int .i64 0, .int .i64 0, .int .i64 0] ?_; intro gb247 hg w6 hbox hb; have BK247 := My.m hbox; have GW247 := My.m ((My.nw w hg My.bB)); have GE247 := My.m ((My.nw w hg My.bB)); replace HB := My.m (below_step My.bB hb); clear hb hbox hg) | ((with_reducible refine gate_callee (f := 47) rfl ?_); refine goesL_ (some 9) rfl rfl Try.func47 (by kernel_rfl) rfl #[.string a1] rfl My.ar ?_; (with_reducible refine (hist_is.calls a1 t248 _ A3.out).mono ?_); rintro e w7 ⟨gcl, rfl, hcl, hb⟩; refine ⟨_, rfl, ?_⟩; have HCL := Aside0.mk hcl; clear hcl; replace BK247 := My.m (My.kb BK247.out hb); replace HB := My.m (below_step My.bA hb); (try clear hb); (try clear hb2); (try clear hk); (try clear hi)) | ((with_reducible refine gate_callee (f := 46) rfl ?_); refine goesL_ (some 10) rfl rfl Try.func46 (by kernel_rfl) rfl #[.slice A0 l0.length c0, .func (.func 52) #[] #[.pointer (some ⟨gcl, 0, none⟩)]] rfl My.ar ?_; (with_reducible refine (hist_is_ix.calls (hcl := HCL.out) _ _ l0 t248 t249 _ ?side1 ?side2 A4.out).mono ?_); (case side1 => exact My.Ca (Kd.C_below HR0.out HB.out)); (case side2 => exact HC0.out); rintro e w8 ⟨rfl, hb⟩; refine ⟨_, rfl, ?_⟩; replace BK247 := My.m (My.kb BK247.out hb); replace HB := My.m (below_step My.bA hb); (try clear hb); (try clear hb2); (try clear hk); (try clear hi); obtain ⟨_, _, _, _, _, _⟩ := My.qc6 BK247.out; obtain ⟨_, _, _, _, _, _⟩ := My.qf6 BK247.out))
    refine bodyPost_ret (results_ct rfl _ _ gb247 47 #[.string (⟨#[]⟩ : ByteArray), .string (⟨#[]⟩ : ByteArray), .int .i64 0, .int .i64 0, .int .i64 0, .int .i64 0] (0, 0) _ rfl (My.qp6 BK247.out) Try.underlying47 rfl (by kernel_rfl)) rfl ?_; exact ⟨My.q1, My.bA⟩
  · rw [if_neg c5] at H
    have c5b0 := decide_eq_false c5; clear c5
    by_cases c10 : 0 ≤ t249
    · rw [if_pos c10] at H
      have c10b0 := decide_eq_true c10; clear c10
      by_cases c11 : t249 < (l0.length : Int)
      · rw [if_pos c11] at H
        have c11b0 := decide_eq_true c11; clear c11; simp only [Option.some.injEq, Prod.mk.injEq] at H; obtain ⟨rfl, rfl, rfl, rfl, rfl, rfl, rfl⟩ := H
        go_enter Try.func41, Try.ntmps41
        go_wp2_with (first | ((with_reducible refine gate_dst (N := 4) rfl ?_); refine My.be 4 47 #[.string (⟨#[]⟩ : ByteArray), .string (⟨#[]⟩ : ByteArray), .int .i64 0, .int .i64 0, .int .i64 0, .int .i64 0] ?_; intro gb247 hg w12 hbox hb; have BK247 := My.m hbox; have GW247 := My.m ((My.nw w hg My.bB)); have GE247 := My.m ((My.nw w hg My.bB)); replace HB := My.m (below_step My.bB hb); clear hb hbox hg) | ((with_reducible refine gate_callee (f := 47) rfl ?_); refine goesL_ (some 9) rfl rfl Try.func47 (by kernel_rfl) rfl #[.string a1] rfl My.ar ?_; (with_reducible refine (hist_is.calls a1 t248 _ A3.out).mono ?_); rintro e w13 ⟨gcl, rfl, hcl, hb⟩; refine ⟨_, rfl, ?_⟩; have HCL := Aside0.mk hcl; clear hcl; replace BK247 := My.m (My.kb BK247.out hb); replace HB := My.m (below_step My.bA hb); (try clear hb); (try clear hb2); (try clear hk); (try clear hi)) | ((with_reducible refine gate_callee (f := 46) rfl ?_); refine goesL_ (some 10) rfl rfl Try.func46 (by kernel_rfl) rfl #[.slice A0 l0.length c0, .func (.func 52) #[] #[.pointer (some ⟨gcl, 0, none⟩)]] rfl My.ar ?_; (with_reducible refine (hist_is_ix.calls (hcl := HCL.out) _ _ l0 t248 t249 _ ?side1 ?side2 A4.out).mono ?_); (case side1 => exact My.Ca (Kd.C_below HR0.out HB.out)); (case side2 => exact HC0.out); rintro e w14 ⟨rfl, hb⟩; refine ⟨_, rfl, ?_⟩; replace BK247 := My.m (My.kb BK247.out hb); replace HB := My.m (below_step My.bA hb); (try clear hb); (try clear hb2); (try clear hk); (try clear hi); have p250 : 0 ≤ (t249 : Int) := of_decide_eq_true My.as; have q250 : t249 < (l0.length : Int) := of_decide_eq_true My.as; obtain ⟨ad250, e250, hx250_0, hx250_1, hx250_2, hx250_3, hx250_4, hx250_5⟩ := at_T47 HR0.out t249 p250 q250; cases e250; replace hx250_0 := My.up HB.out hx250_0; replace hx250_1 := My.up HB.out hx250_1; replace hx250_2 := My.up HB.out hx250_2; replace hx250_3 := My.up HB.out hx250_3; replace hx250_4 := My.up HB.out hx250_4; replace hx250_5 := My.up HB.out hx250_5; replace p250 := eq_true p250; replace q250 := eq_true q250; obtain ⟨_, _, _, _, _, _⟩ := My.qc6 BK247.out; obtain ⟨_, _, _, _, _, _⟩ := My.qf6 BK247.out))
        refine bodyPost_ret (results_ct rfl _ _ gb247 47 #[.string ((rd_T47 l0 t249).f0), .string ((rd_T47 l0 t249).f1), .int .i64 ((rd_T47 l0 t249).f2), .int .i64 ((rd_T47 l0 t249).f3), .int .i64 ((rd_T47 l0 t249).f4), .int .i64 ((rd_T47 l0 t249).f5)] (0, 0) _ rfl (My.qp6 BK247.out) Try.underlying47 rfl (by kernel_rfl)) rfl ?_; exact ⟨My.q1, My.bA⟩
      · exact My.no c11 H
    · exact My.no c10 H

end Go.Proofs.Ytpfgmladebgdaaa.PM
