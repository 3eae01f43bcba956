import Derived.Test.YtaebmmjhokjdbaaPM0
import Derived.Test.YtaebmmjhokjdbaaPM11
namespace Go.Proofs.Ytaebmmjhokjdbaa.PM
open Go.RowKit Go.Proofs.YtaebmmjhokjdbaaW.PrintWords Go.Proofs.YtaebmmjhokjdbaaW.PrintLast Go.Proofs.YtaebmmjhokjdbaaW.PrintMore
attribute [local go_sem] max2_int min2_int max_two min_two max_three min_three max_four min_four
attribute [local go_sem high] Go.Proofs.Ytaebmmjhokjdbaa.My.str_leq Go.Proofs.Ytaebmmjhokjdbaa.My.str_gtr Go.Proofs.Ytaebmmjhokjdbaa.My.str_geq
set_option linter.unusedVariables false
set_option linter.unusedSimpArgs false

/-! ### elect_Head: function 11 -/
def elect_Head.f (l0:List (S26)):Option (ByteArray×ByteArray×Int×Int×Int×Int×Bool):=(ticket_Order.f l0).bind fun t156=> (if (t156.length:Int)=0 then (some ((⟨#[]⟩:ByteArray),(⟨#[]⟩:ByteArray),0,0,0,0,false)) else (if 0 < (t156.length:Int) then (some ((rd_T26 t156 0).f0,(rd_T26 t156 0).f1,(rd_T26 t156 0).f2,(rd_T26 t156 0).f3,(rd_T26 t156 0).f4,(rd_T26 t156 0).f5,true)) else (none)))
set_option maxHeartbeats 80000000 in
set_option maxRecDepth 100000 in
theorem elect_Head.calls (A0:Option Addr) (c0:Nat) (l0:List (S26)) (r1:ByteArray) (r2:ByteArray) (r3:Int) (r4:Int) (r5:Int) (r6:Int) (r7:Bool) (w:World) (hr0:Kd.C k26 w A0 l0.length l0) (hc0:l0.length≤c0) (h:elect_Head.f l0=some (r1,r2,r3,r4,r5,r6,r7)):
    Calls Try.prog 11 #[.slice A0 l0.length c0] w fun e w'=> e= .returned (.tuple #[.agg #[.string r1,.string r2,.int .i64 r3,.int .i64 r4,.int .i64 r5,.int .i64 r6],.bool r7])∧Below w.heap.size w w':=by
  have hu26:=Try.underlying26;have HR0:=Aside0.mk hr0;have HC0:=Aside0.mk hc0;clear hr0 hc0;have HB:=My.m (Below.refl w.heap.size w);have H:=h;clear h;unfold elect_Head.f at H;replace H:=Option.bind_eq_some_iff.mp H;obtain⟨t156,A20,H⟩:=H;have A2:=Aside0.mk A20;clear A20
  by_cases c3:(t156.length:Int)=0
  · rw [if_pos c3] at H
    have c3b0:((t156.length:Int) == 0)=true:=beq_iff_eq.mpr c3;have c3b1:((t156.length:Int) != 0)=false:=bne_eq_false_iff_eq.mpr c3;clear c3;simp only [Option.some.injEq,Prod.mk.injEq] at H;obtain⟨rfl,rfl,rfl,rfl,rfl,rfl,rfl⟩:=H
    go_enter Try.func11,Try.ntmps11
    go_wp2_with (first|((with_reducible refine gate_dst (N:=2) rfl ?_);refine My.be 2 26 #[.string (⟨#[]⟩:ByteArray),.string (⟨#[]⟩:ByteArray),.int .i64 0,.int .i64 0,.int .i64 0,.int .i64 0] ?_;intro gb155 hg w4 hbox hb;have BK155:=My.m hbox;have GW155:=My.m ((My.nw w hg My.bB));have GE155:=My.m ((My.nw w hg My.bB));replace HB:=My.m (below_step My.bB hb);clear hb hbox hg)|((with_reducible refine gate_callee (f:=30) rfl ?_);refine goesL_ (some 6) rfl rfl Try.func30 (by kernel_rfl) rfl #[.slice A0 l0.length c0] rfl My.ar ?_;(with_reducible refine(ticket_Order.calls _ _ l0 t156 _ ?side1 ?side2 A2.out).mono ?_);(case side1=> exact My.Ca (Kd.C_below HR0.out HB.out));(case side2=> exact HC0.out);rintro e w5 ⟨v157,rfl,ho0,hb⟩;refine⟨_,rfl,?_⟩;have HO158:=My.m (Kd.R_lower (Kd.R_newB ho0 (g:=gb155) (o:= .cells #[.string (⟨#[]⟩:ByteArray),.string (⟨#[]⟩:ByteArray),.int .i64 0,.int .i64 0,.int .i64 0,.int .i64 0] 26 (0,0)) (My.Ka BK155.out)) (below_size My.bA));replace BK155:=My.m (My.kb BK155.out hb);replace HB:=My.m (below_step My.bA hb);(repeat first|clear hb|clear hb2|clear hk|clear hi|clear ho0);obtain⟨Ao6,co6,eo6⟩:=Kd.R_slice HO158.out;subst eo6;obtain⟨_,_,_,_,_,_⟩:=My.qc6 BK155.out;obtain⟨_,_,_,_,_,_⟩:=My.qf6 BK155.out))
    refine bodyPost_ret (results_ct rfl _ _ gb155 26 #[.string (⟨#[]⟩:ByteArray),.string (⟨#[]⟩:ByteArray),.int .i64 0,.int .i64 0,.int .i64 0,.int .i64 0] (0,0) _ rfl (My.qp6 BK155.out) Try.underlying26 rfl (by kernel_rfl)) rfl ?_;exact⟨My.q1,My.bA⟩
  · rw [if_neg c3] at H
    have c3b0:((t156.length:Int) == 0)=false:=beq_eq_false_iff_ne.mpr c3;have c3b1:((t156.length:Int) != 0)=true:=bne_iff_ne.mpr c3;have c3b2:¬(t156= []):=fun h_=> c3 (by rw [h_];rfl)
    by_cases c8:0 < (t156.length:Int)
    · rw [if_pos c8] at H
      have c8b0:=decide_eq_true c8;have c8b1:decide (0 < t156.length)=true:=decide_eq_true (by omega);clear c8;simp only [Option.some.injEq,Prod.mk.injEq] at H;obtain⟨rfl,rfl,rfl,rfl,rfl,rfl,rfl⟩:=H
      go_enter Try.func11,Try.ntmps11
      go_wp2_with (first|((with_reducible refine gate_dst (N:=2) rfl ?_);refine My.be 2 26 #[.string (⟨#[]⟩:ByteArray),.string (⟨#[]⟩:ByteArray),.int .i64 0,.int .i64 0,.int .i64 0,.int .i64 0] ?_;intro gb155 hg w9 hbox hb;have BK155:=My.m hbox;have GW155:=My.m ((My.nw w hg My.bB));have GE155:=My.m ((My.nw w hg My.bB));replace HB:=My.m (below_step My.bB hb);clear hb hbox hg)|((with_reducible refine gate_callee (f:=30) rfl ?_);refine goesL_ (some 6) rfl rfl Try.func30 (by kernel_rfl) rfl #[.slice A0 l0.length c0] rfl My.ar ?_;(with_reducible refine(ticket_Order.calls _ _ l0 t156 _ ?side1 ?side2 A2.out).mono ?_);(case side1=> exact My.Ca (Kd.C_below HR0.out HB.out));(case side2=> exact HC0.out);rintro e w10 ⟨v157,rfl,ho0,hb⟩;refine⟨_,rfl,?_⟩;have HO158:=My.m (Kd.R_lower (Kd.R_newB ho0 (g:=gb155) (o:= .cells #[.string (⟨#[]⟩:ByteArray),.string (⟨#[]⟩:ByteArray),.int .i64 0,.int .i64 0,.int .i64 0,.int .i64 0] 26 (0,0)) (My.Ka BK155.out)) (below_size My.bA));replace BK155:=My.m (My.kb BK155.out hb);replace HB:=My.m (below_step My.bA hb);(repeat first|clear hb|clear hb2|clear hk|clear hi|clear ho0);obtain⟨Ao11,co11,eo11⟩:=Kd.R_slice HO158.out;subst eo11;have p159:0≤(0:Int):=(by omega);have q159:0 < (t156.length:Int):=of_decide_eq_true My.as;obtain⟨ad159,e159,hx159_0,hx159_1,hx159_2,hx159_3,hx159_4,hx159_5⟩:=at_T26 (Kd.R_reads' HO158.out).2.2 0 p159 q159;cases e159;have qi159:(0 < t156.length)=True:=eq_true (by omega);(try simp only [show((0:Int)).toNat=0 from rfl,show 0 * 6=0 from rfl,Addr.add_zero'] at hx159_0 hx159_1 hx159_2 hx159_3 hx159_4 hx159_5);replace p159:=eq_true p159;replace q159:=eq_true q159;obtain⟨_,_,_,_,_,_⟩:=My.qc6 BK155.out;obtain⟨_,_,_,_,_,_⟩:=My.qf6 BK155.out))
      refine bodyPost_ret (results_ct rfl _ _ gb155 26 #[.string ((rd_T26 t156 0).f0),.string ((rd_T26 t156 0).f1),.int .i64 ((rd_T26 t156 0).f2),.int .i64 ((rd_T26 t156 0).f3),.int .i64 ((rd_T26 t156 0).f4),.int .i64 ((rd_T26 t156 0).f5)] (0,0) _ rfl (My.qp6 BK155.out) Try.underlying26 rfl (by kernel_rfl)) rfl ?_;exact⟨My.q1,My.bA⟩
    · exact My.no c8 H

end Go.Proofs.Ytaebmmjhokjdbaa.PM
