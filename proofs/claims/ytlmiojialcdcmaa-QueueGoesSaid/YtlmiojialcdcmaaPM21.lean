import Derived.Test.YtlmiojialcdcmaaPM0
namespace Go.Proofs.Ytlmiojialcdcmaa.PM
open Go.RowKit Go.Proofs.YtlmiojialcdcmaaW.PrintWords Go.Proofs.YtlmiojialcdcmaaW.PrintLast Go.Proofs.YtlmiojialcdcmaaW.PrintMore
attribute [local go_sem] max2_int min2_int max_two min_two max_three min_three max_four min_four
attribute [local go_sem high] Go.Proofs.Ytlmiojialcdcmaa.My.str_leq Go.Proofs.Ytlmiojialcdcmaa.My.str_gtr Go.Proofs.Ytlmiojialcdcmaa.My.str_geq
set_option linter.unusedVariables false
set_option linter.unusedSimpArgs false

/-! ### queue_Told_1: function 32 -/
def queue_Told_1.f (a0_0:Int) (a0_1:Bool) (a0_2:ByteArray) (a0_3:ByteArray) (a0_4:Int) (a0_5:Int) (a0_6:Int) (a0_7:Int):Option (Bool):=some (!a0_1)
set_option maxHeartbeats 80000000 in
set_option maxRecDepth 100000 in
theorem queue_Told_1.calls (a0_0:Int) (a0_1:Bool) (a0_2:ByteArray) (a0_3:ByteArray) (a0_4:Int) (a0_5:Int) (a0_6:Int) (a0_7:Int) (r:Bool) (w:World) (h:queue_Told_1.f a0_0 a0_1 a0_2 a0_3 a0_4 a0_5 a0_6 a0_7=some r):
    Calls Try.prog 32 #[.agg #[.int .i64 a0_0,.bool a0_1,.string a0_2,.string a0_3,.int .i64 a0_4,.int .i64 a0_5,.int .i64 a0_6,.int .i64 a0_7]] w fun e w'=> e= .returned (.bool r)∧Below w.heap.size w w':=by
  have hu65:=Try.underlying65;have HB:=My.m (Below.refl w.heap.size w);have H:=h;clear h;unfold queue_Told_1.f at H;obtain rfl:=Option.some.inj H
  go_enter Try.func32,Try.ntmps32
  go_wp2_with (first|((with_reducible refine gate_dst (N:=1) rfl ?_);refine My.be 1 65 #[.int .i64 a0_0,.bool a0_1,.string a0_2,.string a0_3,.int .i64 a0_4,.int .i64 a0_5,.int .i64 a0_6,.int .i64 a0_7] ?_;intro gb202 hg w2 hbox hb;have BK202:=My.m hbox;have GW202:=My.m ((My.nw w hg My.bB));have GE202:=My.m ((My.nw w hg My.bB));replace HB:=My.m (below_step My.bB hb);clear hb hbox hg;obtain⟨_,_,_,_,_,_,_,_⟩:=My.qc8 BK202.out;obtain⟨_,_,_,_,_,_,_,_⟩:=My.qf8 BK202.out))
  go_ret
  exact⟨My.q1,My.bA⟩

end Go.Proofs.Ytlmiojialcdcmaa.PM
