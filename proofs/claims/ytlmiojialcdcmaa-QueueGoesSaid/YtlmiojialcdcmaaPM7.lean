import Derived.Test.YtlmiojialcdcmaaPM0
import Derived.Test.YtlmiojialcdcmaaPM6
namespace Go.Proofs.Ytlmiojialcdcmaa.PM
open Go.RowKit Go.Proofs.YtlmiojialcdcmaaW.PrintWords Go.Proofs.YtlmiojialcdcmaaW.PrintLast Go.Proofs.YtlmiojialcdcmaaW.PrintMore
attribute [local go_sem] max2_int min2_int max_two min_two max_three min_three max_four min_four
attribute [local go_sem high] Go.Proofs.Ytlmiojialcdcmaa.My.str_leq Go.Proofs.Ytlmiojialcdcmaa.My.str_gtr Go.Proofs.Ytlmiojialcdcmaa.My.str_geq
set_option linter.unusedVariables false
set_option linter.unusedSimpArgs false

/-! ### key_Name: function 18 -/
def key_Name.f (a0:ByteArray):Option (Bool):=(key_each_36.f a0 12 ()).bind fun t102=> (some t102)
set_option maxHeartbeats 80000000 in
set_option maxRecDepth 100000 in
theorem key_Name.calls (a0:ByteArray) (r:Bool) (w:World) (h:key_Name.f a0=some r):
    Calls Try.prog 18 #[.string a0] w fun e w'=> e= .returned (.bool r)∧Below w.heap.size w w':=by
  have HB:=My.m (Below.refl w.heap.size w);have H:=h;clear h;unfold key_Name.f at H;replace H:=Option.bind_eq_some_iff.mp H;obtain⟨t102,A20,H⟩:=H;have A2:=Aside0.mk A20;clear A20;obtain rfl:=Option.some.inj H
  go_enter Try.func18,Try.ntmps18
  go_wp2_with (first|((with_reducible refine gate_callee (f:=35) rfl ?_);refine goesL_ (some 4) rfl rfl Try.func35 (by kernel_rfl) rfl #[.string a0,.int .i64 12,.func (.func 36) #[] #[]] rfl My.ar ?_;(with_reducible refine(key_each_36.calls a0 12 () t102 _ A2.out).mono ?_);rintro e w3 ⟨rfl,hb⟩;refine⟨_,rfl,?_⟩;have n0_:=My.m (below_step My.bB hb);clear HB;have HB:=n0_;clear n0_;(repeat first|clear hb|clear hb2|clear hk|clear hi)))
  go_ret
  exact⟨My.q1,My.bB⟩

/-! ### queue_Start: function 7 -/
def queue_Start.f (a0:Int) (a1:ByteArray) (a2:ByteArray):Option (Int×ByteArray×Int×ByteArray×ByteArray×Int×Int×Int×Int×Int×Bool):=(key_Name.f a1).bind fun t104=> (if t104=true then (if a0=8 then (some (a0,a1,0,(⟨#[]⟩:ByteArray),(⟨#[]⟩:ByteArray),0,2,0,0,0,true)) else (if a0=7 then (if (a2.size:Int)≤20 then (some (a0,a1,0,a2,(⟨#[]⟩:ByteArray),0,1,0,0,0,true)) else (some (0,(⟨#[]⟩:ByteArray),0,(⟨#[]⟩:ByteArray),(⟨#[]⟩:ByteArray),0,0,0,0,0,false))) else (some (0,(⟨#[]⟩:ByteArray),0,(⟨#[]⟩:ByteArray),(⟨#[]⟩:ByteArray),0,0,0,0,0,false)))) else (some (0,(⟨#[]⟩:ByteArray),0,(⟨#[]⟩:ByteArray),(⟨#[]⟩:ByteArray),0,0,0,0,0,false)))
set_option maxHeartbeats 80000000 in
set_option maxRecDepth 100000 in
theorem queue_Start.calls (a0:Int) (a1:ByteArray) (a2:ByteArray) (r1:Int) (r2:ByteArray) (r3:Int) (r4:ByteArray) (r5:ByteArray) (r6:Int) (r7:Int) (r8:Int) (r9:Int) (r10:Int) (r11:Bool) (w:World) (h:queue_Start.f a0 a1 a2=some (r1,r2,r3,r4,r5,r6,r7,r8,r9,r10,r11)):
  Calls Try.prog 7 #[.int .i64 a0,.string a1,.string a2] w fun e w'=> e= .returned (.tuple #[.agg #[.int .i64 r1,.string r2,.int .i64 r3,.string r4,.string r5,.int .i64 r6,.int .i64 r7,.int .i64 r8,.int .i64 r9,.int .i64 r10],.bool r11])∧Below w.heap.size w w':=by
 have hu24:=Try.underlying24;have HB:=My.m (Below.refl w.heap.size w);have H:=h;clear h;unfold queue_Start.f at H;replace H:=Option.bind_eq_some_iff.mp H;obtain⟨t104,A40,H⟩:=H;have A4:=Aside0.mk A40;clear A40
 by_cases c5:t104=true
 ·subst c5
  rw [if_pos rfl] at H
  by_cases c6:a0=8
  ·rw [if_pos c6] at H
   have c6b0:(a0 == 8)=true:=beq_iff_eq.mpr c6;have c6b1:(a0 != 8)=false:=bne_eq_false_iff_eq.mpr c6;clear c6;simp only [Option.some.injEq,Prod.mk.injEq] at H;obtain⟨rfl,rfl,rfl,rfl,rfl,rfl,rfl,rfl,rfl,rfl,rfl⟩:=H
   go_enter Try.func7,Try.ntmps7
   go_wp2_with (first|((with_reducible refine gate_dst (N:=6) rfl ?_);(try(refine gate_guard (by rfl) ?_;dsimp only));refine My.be 6 24 #[.int .i64 0,.string (⟨#[]⟩:ByteArray),.int .i64 0,.string (⟨#[]⟩:ByteArray),.string (⟨#[]⟩:ByteArray),.int .i64 0,.int .i64 0,.int .i64 0,.int .i64 0,.int .i64 0] ?_;intro gb103 hg w7 hbox hb;have BK103:=My.m hbox;have GW103:=My.m ((My.nw w hg My.bB));have GE103:=My.m ((My.nw w hg My.bB));replace HB:=My.m (below_step My.bB hb);clear hb hbox hg)|((with_reducible refine gate_callee (f:=18) rfl ?_);refine goesL_ (some 9) rfl rfl Try.func18 (by kernel_rfl) rfl #[.string a1] rfl My.ar ?_;(with_reducible refine(key_Name.calls a1 true _ A4.out).mono ?_);rintro e w8 ⟨rfl,hb⟩;refine⟨_,rfl,?_⟩;replace BK103:=My.m (My.kb BK103.out hb);replace HB:=My.m (below_step My.bA hb);obtain⟨_,_,_,_,_,_,_,_,_,_⟩:=My.qc10 BK103.out;obtain⟨_,_,_,_,_,_,_,_,_,_⟩:=My.qf10 BK103.out))
   refine bodyPost_ret (results_ct rfl _ _ gb103 24 #[.int .i64 a0,.string a1,.int .i64 0,.string (⟨#[]⟩:ByteArray),.string (⟨#[]⟩:ByteArray),.int .i64 0,.int .i64 2,.int .i64 0,.int .i64 0,.int .i64 0] (0,0) _ rfl (My.qp10 BK103.out) Try.underlying24 rfl (by kernel_rfl)) rfl ?_;exact⟨My.q1,My.bA⟩
  ·rw [if_neg c6] at H
   have c6b0:(a0 == 8)=false:=beq_eq_false_iff_ne.mpr c6;have c6b1:(a0 != 8)=true:=bne_iff_ne.mpr c6
   by_cases c10:a0=7
   ·rw [if_pos c10] at H
    have c10b0:(a0 == 7)=true:=beq_iff_eq.mpr c10;have c10b1:(a0 != 7)=false:=bne_eq_false_iff_eq.mpr c10;clear c10
    by_cases c11:(a2.size:Int)≤20
    ·rw [if_pos c11] at H
     have c11b0:=decide_eq_true c11;have c11b1:decide (a2.size≤20)=true:=decide_eq_true (by omega);clear c11;simp only [Option.some.injEq,Prod.mk.injEq] at H;obtain⟨rfl,rfl,rfl,rfl,rfl,rfl,rfl,rfl,rfl,rfl,rfl⟩:=H
     go_enter Try.func7,Try.ntmps7
     go_wp2_with (first|((with_reducible refine gate_dst (N:=6) rfl ?_);(try(refine gate_guard (by rfl) ?_;dsimp only));refine My.be 6 24 #[.int .i64 0,.string (⟨#[]⟩:ByteArray),.int .i64 0,.string (⟨#[]⟩:ByteArray),.string (⟨#[]⟩:ByteArray),.int .i64 0,.int .i64 0,.int .i64 0,.int .i64 0,.int .i64 0] ?_;intro gb103 hg w12 hbox hb;have BK103:=My.m hbox;have GW103:=My.m ((My.nw w hg My.bB));have GE103:=My.m ((My.nw w hg My.bB));replace HB:=My.m (below_step My.bB hb);clear hb hbox hg)|((with_reducible refine gate_callee (f:=18) rfl ?_);refine goesL_ (some 9) rfl rfl Try.func18 (by kernel_rfl) rfl #[.string a1] rfl My.ar ?_;(with_reducible refine(key_Name.calls a1 true _ A4.out).mono ?_);rintro e w13 ⟨rfl,hb⟩;refine⟨_,rfl,?_⟩;replace BK103:=My.m (My.kb BK103.out hb);replace HB:=My.m (below_step My.bA hb);obtain⟨_,_,_,_,_,_,_,_,_,_⟩:=My.qc10 BK103.out;obtain⟨_,_,_,_,_,_,_,_,_,_⟩:=My.qf10 BK103.out))
     refine bodyPost_ret (results_ct rfl _ _ gb103 24 #[.int .i64 a0,.string a1,.int .i64 0,.string a2,.string (⟨#[]⟩:ByteArray),.int .i64 0,.int .i64 1,.int .i64 0,.int .i64 0,.int .i64 0] (0,0) _ rfl (My.qp10 BK103.out) Try.underlying24 rfl (by kernel_rfl)) rfl ?_;exact⟨My.q1,My.bA⟩
    ·rw [if_neg c11] at H
     have c11b0:=decide_eq_false c11;have c11b1:decide (a2.size≤20)=false:=decide_eq_false (by omega);clear c11;simp only [Option.some.injEq,Prod.mk.injEq] at H;obtain⟨rfl,rfl,rfl,rfl,rfl,rfl,rfl,rfl,rfl,rfl,rfl⟩:=H
     go_enter Try.func7,Try.ntmps7
     go_wp2_with (first|((with_reducible refine gate_dst (N:=6) rfl ?_);(try(refine gate_guard (by rfl) ?_;dsimp only));refine My.be 6 24 #[.int .i64 0,.string (⟨#[]⟩:ByteArray),.int .i64 0,.string (⟨#[]⟩:ByteArray),.string (⟨#[]⟩:ByteArray),.int .i64 0,.int .i64 0,.int .i64 0,.int .i64 0,.int .i64 0] ?_;intro gb103 hg w15 hbox hb;have BK103:=My.m hbox;have GW103:=My.m ((My.nw w hg My.bB));have GE103:=My.m ((My.nw w hg My.bB));replace HB:=My.m (below_step My.bB hb);clear hb hbox hg)|((with_reducible refine gate_callee (f:=18) rfl ?_);refine goesL_ (some 9) rfl rfl Try.func18 (by kernel_rfl) rfl #[.string a1] rfl My.ar ?_;(with_reducible refine(key_Name.calls a1 true _ A4.out).mono ?_);rintro e w16 ⟨rfl,hb⟩;refine⟨_,rfl,?_⟩;replace BK103:=My.m (My.kb BK103.out hb);replace HB:=My.m (below_step My.bA hb);obtain⟨_,_,_,_,_,_,_,_,_,_⟩:=My.qc10 BK103.out;obtain⟨_,_,_,_,_,_,_,_,_,_⟩:=My.qf10 BK103.out))
     refine bodyPost_ret (results_ct rfl _ _ gb103 24 #[.int .i64 0,.string (⟨#[]⟩:ByteArray),.int .i64 0,.string (⟨#[]⟩:ByteArray),.string (⟨#[]⟩:ByteArray),.int .i64 0,.int .i64 0,.int .i64 0,.int .i64 0,.int .i64 0] (0,0) _ rfl (My.qp10 BK103.out) Try.underlying24 rfl (by kernel_rfl)) rfl ?_;exact⟨My.q1,My.bA⟩
   ·rw [if_neg c10] at H
    have c10b0:(a0 == 7)=false:=beq_eq_false_iff_ne.mpr c10;have c10b1:(a0 != 7)=true:=bne_iff_ne.mpr c10;simp only [Option.some.injEq,Prod.mk.injEq] at H;obtain⟨rfl,rfl,rfl,rfl,rfl,rfl,rfl,rfl,rfl,rfl,rfl⟩:=H
    go_enter Try.func7,Try.ntmps7
    go_wp2_with (first|((with_reducible refine gate_dst (N:=6) rfl ?_);(try(refine gate_guard (by rfl) ?_;dsimp only));refine My.be 6 24 #[.int .i64 0,.string (⟨#[]⟩:ByteArray),.int .i64 0,.string (⟨#[]⟩:ByteArray),.string (⟨#[]⟩:ByteArray),.int .i64 0,.int .i64 0,.int .i64 0,.int .i64 0,.int .i64 0] ?_;intro gb103 hg w18 hbox hb;have BK103:=My.m hbox;have GW103:=My.m ((My.nw w hg My.bB));have GE103:=My.m ((My.nw w hg My.bB));replace HB:=My.m (below_step My.bB hb);clear hb hbox hg)|((with_reducible refine gate_callee (f:=18) rfl ?_);refine goesL_ (some 9) rfl rfl Try.func18 (by kernel_rfl) rfl #[.string a1] rfl My.ar ?_;(with_reducible refine(key_Name.calls a1 true _ A4.out).mono ?_);rintro e w19 ⟨rfl,hb⟩;refine⟨_,rfl,?_⟩;replace BK103:=My.m (My.kb BK103.out hb);replace HB:=My.m (below_step My.bA hb);obtain⟨_,_,_,_,_,_,_,_,_,_⟩:=My.qc10 BK103.out;obtain⟨_,_,_,_,_,_,_,_,_,_⟩:=My.qf10 BK103.out))
    refine bodyPost_ret (results_ct rfl _ _ gb103 24 #[.int .i64 0,.string (⟨#[]⟩:ByteArray),.int .i64 0,.string (⟨#[]⟩:ByteArray),.string (⟨#[]⟩:ByteArray),.int .i64 0,.int .i64 0,.int .i64 0,.int .i64 0,.int .i64 0] (0,0) _ rfl (My.qp10 BK103.out) Try.underlying24 rfl (by kernel_rfl)) rfl ?_;exact⟨My.q1,My.bA⟩
 ·replace c5:=Bool.eq_false_iff.mpr c5
  subst c5;rw [if_neg (show¬(false=true) by decide)] at H;simp only [Option.some.injEq,Prod.mk.injEq] at H;obtain⟨rfl,rfl,rfl,rfl,rfl,rfl,rfl,rfl,rfl,rfl,rfl⟩:=H
  go_enter Try.func7,Try.ntmps7
  go_wp2_with (first|((with_reducible refine gate_dst (N:=6) rfl ?_);(try(refine gate_guard (by rfl) ?_;dsimp only));refine My.be 6 24 #[.int .i64 0,.string (⟨#[]⟩:ByteArray),.int .i64 0,.string (⟨#[]⟩:ByteArray),.string (⟨#[]⟩:ByteArray),.int .i64 0,.int .i64 0,.int .i64 0,.int .i64 0,.int .i64 0] ?_;intro gb103 hg w21 hbox hb;have BK103:=My.m hbox;have GW103:=My.m ((My.nw w hg My.bB));have GE103:=My.m ((My.nw w hg My.bB));replace HB:=My.m (below_step My.bB hb);clear hb hbox hg)|((with_reducible refine gate_callee (f:=18) rfl ?_);refine goesL_ (some 9) rfl rfl Try.func18 (by kernel_rfl) rfl #[.string a1] rfl My.ar ?_;(with_reducible refine(key_Name.calls a1 false _ A4.out).mono ?_);rintro e w22 ⟨rfl,hb⟩;refine⟨_,rfl,?_⟩;replace BK103:=My.m (My.kb BK103.out hb);replace HB:=My.m (below_step My.bA hb);obtain⟨_,_,_,_,_,_,_,_,_,_⟩:=My.qc10 BK103.out;obtain⟨_,_,_,_,_,_,_,_,_,_⟩:=My.qf10 BK103.out))
  refine bodyPost_ret (results_ct rfl _ _ gb103 24 #[.int .i64 0,.string (⟨#[]⟩:ByteArray),.int .i64 0,.string (⟨#[]⟩:ByteArray),.string (⟨#[]⟩:ByteArray),.int .i64 0,.int .i64 0,.int .i64 0,.int .i64 0,.int .i64 0] (0,0) _ rfl (My.qp10 BK103.out) Try.underlying24 rfl (by kernel_rfl)) rfl ?_;exact⟨My.q1,My.bA⟩

end Go.Proofs.Ytlmiojialcdcmaa.PM
