import Derived.Test.YtlmiojialcdcmaaPM0
namespace Go.Proofs.Ytlmiojialcdcmaa.PM
open Go.RowKit Go.Proofs.YtlmiojialcdcmaaW.PrintWords Go.Proofs.YtlmiojialcdcmaaW.PrintLast Go.Proofs.YtlmiojialcdcmaaW.PrintMore
attribute [local go_sem] max2_int min2_int max_two min_two max_three min_three max_four min_four
attribute [local go_sem high] Go.Proofs.Ytlmiojialcdcmaa.My.str_leq Go.Proofs.Ytlmiojialcdcmaa.My.str_gtr Go.Proofs.Ytlmiojialcdcmaa.My.str_geq
set_option linter.unusedVariables false
set_option linter.unusedSimpArgs false

/-! ### batonref16_Short: function 5 -/
def batonref16_Short.f (a0_0:Int) (a0_1:ByteArray) (a0_2:Int) (a0_3:ByteArray) (a0_4:ByteArray) (a0_5:Int) (a0_6:Int) (a0_7:Int) (a0_8:Int) (a0_9:Int):Option (Bool):=if (a0_1.size:Int)≤60 then (if (a0_3.size:Int)≤60 then (some (decide ((a0_4.size:Int)≤60))) else (some false)) else (some false)
set_option maxHeartbeats 80000000 in
set_option maxRecDepth 100000 in
theorem batonref16_Short.calls (a0_0:Int) (a0_1:ByteArray) (a0_2:Int) (a0_3:ByteArray) (a0_4:ByteArray) (a0_5:Int) (a0_6:Int) (a0_7:Int) (a0_8:Int) (a0_9:Int) (r:Bool) (w:World) (h:batonref16_Short.f a0_0 a0_1 a0_2 a0_3 a0_4 a0_5 a0_6 a0_7 a0_8 a0_9=some r):
    Calls Try.prog 5 #[.agg #[.int .i64 a0_0,.string a0_1,.int .i64 a0_2,.string a0_3,.string a0_4,.int .i64 a0_5,.int .i64 a0_6,.int .i64 a0_7,.int .i64 a0_8,.int .i64 a0_9]] w fun e w'=> e= .returned (.bool r)∧Below w.heap.size w w':=by
  have hu24:=Try.underlying24;have HB:=My.m (Below.refl w.heap.size w);have H:(if (a0_1.size:Int)≤60 then (if (a0_3.size:Int)≤60 then (some (decide ((a0_4.size:Int)≤60))) else (some false)) else (some false))=some r:=h;clear h
  by_cases c2:(a0_1.size:Int)≤60
  · rw [if_pos c2] at H
    have c2b0:=decide_eq_true c2;have c2b1:decide (a0_1.size≤60)=true:=decide_eq_true (by omega);clear c2
    by_cases c3:(a0_3.size:Int)≤60
    · rw [if_pos c3] at H
      have c3b0:=decide_eq_true c3;have c3b1:decide (a0_3.size≤60)=true:=decide_eq_true (by omega);clear c3;obtain rfl:=Option.some.inj H
      go_enter Try.func5,Try.ntmps5
      go_wp2_with (first|((with_reducible refine gate_dst (N:=1) rfl ?_);(try(refine gate_guard (by rfl) ?_;dsimp only));refine My.be 1 24 #[.int .i64 a0_0,.string a0_1,.int .i64 a0_2,.string a0_3,.string a0_4,.int .i64 a0_5,.int .i64 a0_6,.int .i64 a0_7,.int .i64 a0_8,.int .i64 a0_9] ?_;intro gb101 hg w4 hbox hb;have BK101:=My.m hbox;have GW101:=My.m ((My.nw w hg My.bB));have GE101:=My.m ((My.nw w hg My.bB));replace HB:=My.m (below_step My.bB hb);clear hb hbox hg;obtain⟨_,_,_,_,_,_,_,_,_,_⟩:=My.qc10 BK101.out;obtain⟨_,_,_,_,_,_,_,_,_,_⟩:=My.qf10 BK101.out))
      go_ret
      exact⟨My.q1,My.bA⟩
    · rw [if_neg c3] at H
      have c3b0:=decide_eq_false c3;have c3b1:decide (a0_3.size≤60)=false:=decide_eq_false (by omega);clear c3;obtain rfl:=Option.some.inj H
      go_enter Try.func5,Try.ntmps5
      go_wp2_with (first|((with_reducible refine gate_dst (N:=1) rfl ?_);(try(refine gate_guard (by rfl) ?_;dsimp only));refine My.be 1 24 #[.int .i64 a0_0,.string a0_1,.int .i64 a0_2,.string a0_3,.string a0_4,.int .i64 a0_5,.int .i64 a0_6,.int .i64 a0_7,.int .i64 a0_8,.int .i64 a0_9] ?_;intro gb101 hg w6 hbox hb;have BK101:=My.m hbox;have GW101:=My.m ((My.nw w hg My.bB));have GE101:=My.m ((My.nw w hg My.bB));replace HB:=My.m (below_step My.bB hb);clear hb hbox hg;obtain⟨_,_,_,_,_,_,_,_,_,_⟩:=My.qc10 BK101.out;obtain⟨_,_,_,_,_,_,_,_,_,_⟩:=My.qf10 BK101.out))
      go_ret
      exact⟨My.q1,My.bA⟩
  · rw [if_neg c2] at H
    have c2b0:=decide_eq_false c2;have c2b1:decide (a0_1.size≤60)=false:=decide_eq_false (by omega);clear c2;obtain rfl:=Option.some.inj H
    go_enter Try.func5,Try.ntmps5
    go_wp2_with (first|((with_reducible refine gate_dst (N:=1) rfl ?_);(try(refine gate_guard (by rfl) ?_;dsimp only));refine My.be 1 24 #[.int .i64 a0_0,.string a0_1,.int .i64 a0_2,.string a0_3,.string a0_4,.int .i64 a0_5,.int .i64 a0_6,.int .i64 a0_7,.int .i64 a0_8,.int .i64 a0_9] ?_;intro gb101 hg w8 hbox hb;have BK101:=My.m hbox;have GW101:=My.m ((My.nw w hg My.bB));have GE101:=My.m ((My.nw w hg My.bB));replace HB:=My.m (below_step My.bB hb);clear hb hbox hg;obtain⟨_,_,_,_,_,_,_,_,_,_⟩:=My.qc10 BK101.out;obtain⟨_,_,_,_,_,_,_,_,_,_⟩:=My.qf10 BK101.out))
    go_ret
    exact⟨My.q1,My.bA⟩

/-! ### key_Name_1: function 36 -/
def key_Name_1.f (a0:Int):Option (Bool):=if a0≥97 then (if a0≤122 then (some true) else (if a0≥48 then (some (decide (a0≤57))) else (some false))) else (if a0≥48 then (some (decide (a0≤57))) else (some false))
set_option maxHeartbeats 80000000 in
set_option maxRecDepth 100000 in
theorem key_Name_1.calls (a0:Int) (r:Bool) (w:World) (h:key_Name_1.f a0=some r):
    Calls Try.prog 36 #[.int .u8 a0] w fun e w'=> e= .returned (.bool r)∧Drawn0 w w':=by
  have H:(if a0≥97 then (if a0≤122 then (some true) else (if a0≥48 then (some (decide (a0≤57))) else (some false))) else (if a0≥48 then (some (decide (a0≤57))) else (some false)))=some r:=h;clear h
  by_cases c2:a0≥97
  · rw [if_pos c2] at H
    have c2b0:=decide_eq_true c2;clear c2
    by_cases c3:a0≤122
    · rw [if_pos c3] at H
      have c3b0:=decide_eq_true c3;clear c3;obtain rfl:=Option.some.inj H
      go_enter Try.func36,Try.ntmps36
      go_wp2
      go_ret
      exact⟨My.q0,My.dD⟩
    · rw [if_neg c3] at H
      have c3b0:=decide_eq_false c3;clear c3
      by_cases c4:a0≥48
      · rw [if_pos c4] at H
        have c4b0:=decide_eq_true c4;clear c4;obtain rfl:=Option.some.inj H
        go_enter Try.func36,Try.ntmps36
        go_wp2
        go_ret
        exact⟨My.q0,My.dD⟩
      · rw [if_neg c4] at H
        have c4b0:=decide_eq_false c4;clear c4;obtain rfl:=Option.some.inj H
        go_enter Try.func36,Try.ntmps36
        go_wp2
        go_ret
        exact⟨My.q0,My.dD⟩
  · rw [if_neg c2] at H
    have c2b0:=decide_eq_false c2;clear c2
    by_cases c5:a0≥48
    · rw [if_pos c5] at H
      have c5b0:=decide_eq_true c5;clear c5;obtain rfl:=Option.some.inj H
      go_enter Try.func36,Try.ntmps36
      go_wp2
      go_ret
      exact⟨My.q0,My.dD⟩
    · rw [if_neg c5] at H
      have c5b0:=decide_eq_false c5;clear c5;obtain rfl:=Option.some.inj H
      go_enter Try.func36,Try.ntmps36
      go_wp2
      go_ret
      exact⟨My.q0,My.dD⟩

end Go.Proofs.Ytlmiojialcdcmaa.PM
