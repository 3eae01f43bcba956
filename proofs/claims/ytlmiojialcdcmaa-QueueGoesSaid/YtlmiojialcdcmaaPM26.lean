import Derived.Test.YtlmiojialcdcmaaPM0
import Derived.Test.YtlmiojialcdcmaaPM1
import Derived.Test.YtlmiojialcdcmaaPM2
import Derived.Test.YtlmiojialcdcmaaPM4
import Derived.Test.YtlmiojialcdcmaaPM5
import Derived.Test.YtlmiojialcdcmaaPM7
import Derived.Test.YtlmiojialcdcmaaPM10
import Derived.Test.YtlmiojialcdcmaaPM12
import Derived.Test.YtlmiojialcdcmaaPM25
namespace Go.Proofs.Ytlmiojialcdcmaa.PM
open Go.RowKit Go.Proofs.YtlmiojialcdcmaaW.PrintWords Go.Proofs.YtlmiojialcdcmaaW.PrintLast Go.Proofs.YtlmiojialcdcmaaW.PrintMore
attribute [local go_sem] max2_int min2_int max_two min_two max_three min_three max_four min_four
attribute [local go_sem high] Go.Proofs.Ytlmiojialcdcmaa.My.str_leq Go.Proofs.Ytlmiojialcdcmaa.My.str_gtr Go.Proofs.Ytlmiojialcdcmaa.My.str_geq
set_option linter.unusedVariables false
set_option linter.unusedSimpArgs false

attribute [local go_sem high] eqA24 eqA51 eqA76
theorem issaPM26 (w:World) (a b:Addr) (v:Value):((w.setCell a v).cell? b).isSome=(w.cell? b).isSome:=by
  by_cases h:a=b
  · subst h
    cases hc:w.cell? a with
    |some u=> rw [World.cell?_setCell_same w a v hc];rfl
    |none=>
      simp only [World.cell?] at hc
      simp only [World.setCell,World.cell?,Array.getElem?_modify,if_true]
      cases hh:w.heap[a.block]? with
      |none=> simp
      |some x=>
        rw [hh] at hc
        cases x <;> simp_all
  · rw [World.cell?_setCell_other w a b v h]
attribute [local go_sem] issaPM26
/-! ### batonref19_Ask: function 10 -/
def batonref19_Ask.j0:Nat→ByteArray→Bool→Int→ByteArray→Int→ByteArray→ByteArray→Int→Int→Int→Int→Int→Option (Int×Int×Int×Bool×ByteArray×ByteArray×Int×Int×Int×Int×(List (S51))×(List (S76))×(List (S76))×Bool)
 |0,_,_,_,_,_,_,_,_,_,_,_,_=> none
 |k + 1,x4,x29,x479000,x479001,x479002,x479003,x479004,x479005,x479006,x479007,x479008,x479009=> if x29=true then ((batonref06_Put.f x479004 x479003 0).bind fun bt482=> (some (2,0,0,true,(⟨#[]⟩:ByteArray),(⟨#[]⟩:ByteArray),0,0,0,0,bt482.1,bt482.2.1,bt482.2.2,true))) else (if x479000=8 then (if x479006=2 then (some (1,0,0,false,x4,(⟨#[]⟩:ByteArray),0,0,0,0,([]:List (S51)),([]:List (S76)),([]:List (S76)),true)) else (if x479006=3 then (some (3,0,0,false,x4,(⟨#[]⟩:ByteArray),0,x479008,0,0,([]:List (S51)),([]:List (S76)),([]:List (S76)),true)) else (if x479006=10 then ((batonref06_Drop.f x479004 x479007).bind fun bt491=> (some (2,0,0,true,(⟨#[]⟩:ByteArray),(⟨#[]⟩:ByteArray),0,0,0,0,bt491.1,bt491.2.1,bt491.2.2,true))) else (some (0,0,0,false,(⟨#[]⟩:ByteArray),(⟨#[]⟩:ByteArray),0,0,0,0,([]:List (S51)),([]:List (S76)),([]:List (S76)),false))))) else (some (0,0,0,false,(⟨#[]⟩:ByteArray),(⟨#[]⟩:ByteArray),0,0,0,0,([]:List (S51)),([]:List (S76)),([]:List (S76)),false)))
def batonref19_Ask.f (k:Nat) (a0_0:Int) (a0_1:ByteArray) (a0_2:Int) (a0_3:ByteArray) (a0_4:ByteArray) (a0_5:Int) (a0_6:Int) (a0_7:Int) (a0_8:Int) (a0_9:Int):Option (Int×Int×Int×Bool×ByteArray×ByteArray×Int×Int×Int×Int×(List (S51))×(List (S76))×(List (S76))×Bool):=(batonref02_Prefix.f k a0_0 a0_1).bind fun bt480=> (if bt480.2=true then (if a0_0=7 then (if a0_6=1 then (batonref19_Ask.j0 k bt480.1 (a0_4.toList != ([]:List UInt8)) a0_0 a0_1 a0_2 a0_3 a0_4 a0_5 a0_6 a0_7 a0_8 a0_9) else (batonref19_Ask.j0 k bt480.1 false a0_0 a0_1 a0_2 a0_3 a0_4 a0_5 a0_6 a0_7 a0_8 a0_9)) else (batonref19_Ask.j0 k bt480.1 false a0_0 a0_1 a0_2 a0_3 a0_4 a0_5 a0_6 a0_7 a0_8 a0_9)) else (some (0,0,0,false,(⟨#[]⟩:ByteArray),(⟨#[]⟩:ByteArray),0,0,0,0,([]:List (S51)),([]:List (S76)),([]:List (S76)),false)))
theorem batonref19_Ask.mono_l:∀k,(∀y0 y1 y2 y3 y4 y5 y6 y7 y8 y9 y10 y11,LeO (batonref19_Ask.j0 k y0 y1 y2 y3 y4 y5 y6 y7 y8 y9 y10 y11) (batonref19_Ask.j0 (k + 1) y0 y1 y2 y3 y4 y5 y6 y7 y8 y9 y10 y11))
 |0=> fun _ _ _ _ _ _ _ _ _ _ _ _ r h=> by simp [batonref19_Ask.j0] at h
 |k + 1=> by
  have ih0:=batonref19_Ask.mono_l k
  ·intro y0 y1 y2 y3 y4 y5 y6 y7 y8 y9 y10 y11
   unfold batonref19_Ask.j0
   have ic0:= @batonref02_Prefix.mono;exact My.mono_
theorem batonref19_Ask.mono:∀a0 a1 a2 a3 a4 a5 a6 a7 a8 a9 k,LeO (batonref19_Ask.f k a0 a1 a2 a3 a4 a5 a6 a7 a8 a9) (batonref19_Ask.f (k + 1) a0 a1 a2 a3 a4 a5 a6 a7 a8 a9):=by
 intro a0 a1 a2 a3 a4 a5 a6 a7 a8 a9 k
 have ih0:=batonref19_Ask.mono_l k
 unfold batonref19_Ask.f
 have ic0:= @batonref02_Prefix.mono;exact My.mono_
set_option maxHeartbeats 80000000 in
set_option maxRecDepth 100000 in
theorem batonref19_Ask.calls (k:Nat) (a0_0:Int) (a0_1:ByteArray) (a0_2:Int) (a0_3:ByteArray) (a0_4:ByteArray) (a0_5:Int) (a0_6:Int) (a0_7:Int) (a0_8:Int) (a0_9:Int) (r1:Int) (r2:Int) (r3:Int) (r4:Bool) (r5:ByteArray) (r6:ByteArray) (r7:Int) (r8:Int) (r9:Int) (r10:Int) (r11:List (S51)) (r12:List (S76)) (r13:List (S76)) (r14:Bool) (w:World) (h:batonref19_Ask.f k a0_0 a0_1 a0_2 a0_3 a0_4 a0_5 a0_6 a0_7 a0_8 a0_9=some (r1,r2,r3,r4,r5,r6,r7,r8,r9,r10,r11,r12,r13,r14)):
  Calls Try.prog 10 #[.agg #[.int .i64 a0_0,.string a0_1,.int .i64 a0_2,.string a0_3,.string a0_4,.int .i64 a0_5,.int .i64 a0_6,.int .i64 a0_7,.int .i64 a0_8,.int .i64 a0_9]] w fun e w'=> ∃v10_ v11_ v12_:Value,e= .returned (.tuple #[.agg #[.int .i64 r1,.int .i64 r2,.int .i64 r3,.bool r4,.string r5,.string r6,.int .i64 r7,.int .i64 r8,.int .i64 r9,.int .i64 r10,v10_,v11_,v12_],.bool r14])∧Kd.R k51 51 w' w.heap.size (fun _=> True) v10_ r11∧Kd.R k76 76 w' w.heap.size (fun k_=> some k_≠(v12_:Value).ownBlock) v11_ r12∧Kd.R k76 76 w' w.heap.size (fun k_=> some k_≠(v11_:Value).ownBlock) v12_ r13∧Below w.heap.size w w':=by
 have hu24:=Try.underlying24;have hu34:=Try.underlying34;have HB:=My.m (Below.refl w.heap.size w);have H:=h;clear h;unfold batonref19_Ask.f at H;replace H:=Option.bind_eq_some_iff.mp H;obtain⟨⟨t480,t481⟩,A20,H⟩:=H;dsimp only at H;have A2:=Aside0.mk A20;clear A20
 by_cases c3:t481=true
 ·subst c3
  rw [if_pos rfl] at H;have HC4:=Aside0.mk H;clear H
  go_enter Try.func10,Try.ntmps10
  go_upto_region 4 with (first|((with_reducible refine gate_dst (N:=1) rfl ?_);refine My.be 1 24 #[.int .i64 a0_0,.string a0_1,.int .i64 a0_2,.string a0_3,.string a0_4,.int .i64 a0_5,.int .i64 a0_6,.int .i64 a0_7,.int .i64 a0_8,.int .i64 a0_9] ?_;intro gb478 hg w5 hbox hb;have BK478:=My.m hbox;have GW478:=My.m ((My.nw w hg My.bB));have GE478:=My.m ((My.nw w hg My.bB));replace HB:=My.m (below_step My.bB hb);clear hb hbox hg)|((with_reducible refine gate_dst (N:=2) rfl ?_);refine My.be 2 34 #[.int .i64 0,.int .i64 0,.int .i64 0,.bool false,.string (⟨#[]⟩:ByteArray),.string (⟨#[]⟩:ByteArray),.int .i64 0,.int .i64 0,.int .i64 0,.int .i64 0,.slice none 0 0,.slice none 0 0,.slice none 0 0] ?_;intro gb479 hg w6 hbox hb;have BK479:=My.m hbox;have GW479:=My.m ((My.nw w hg My.bA));have GE479:=My.m ((My.nw w hg My.bA));replace HB:=My.m (below_step My.bA hb);have NB478_479:=My.m ((My.nl hg BK478));have NB479_478:=My.m ((My.nr hg BK478));replace BK478:=My.m (My.kb BK478.out hb);clear hb hbox hg;have hnb7:=NB478_479.out;have hnc7:=NB479_478.out;obtain⟨hcz8_0,hcz8_1,hcz8_2,hcz8_3,hcz8_4,hcz8_5,hcz8_6,hcz8_7,hcz8_8,hcz8_9⟩:=My.qc10 BK478.out;obtain⟨hfz8_0,hfz8_1,hfz8_2,hfz8_3,hfz8_4,hfz8_5,hfz8_6,hfz8_7,hfz8_8,hfz8_9⟩:=My.qf10 BK478.out)|((with_reducible refine gate_callee (f:=23) rfl ?_);refine goesL_ (some 11) rfl rfl Try.func23 (by kernel_rfl) rfl #[.int .i64 a0_0,.string a0_1] rfl My.ar ?_;(with_reducible refine(batonref02_Prefix.calls k a0_0 a0_1 t480 true _ A2.out).mono ?_);rintro e w' ⟨rfl,⟨nd,rfl⟩⟩;refine⟨_,rfl,?_⟩))
  (try simp only [Act.put,List.setIfInBounds_toArray,List.set_cons_zero,List.set_cons_succ])
  go_cut [29] (fun v29 wc=> ∃(kq:Nat) (x29_3:Bool),v29= .bool x29_3∧Aside0 (batonref19_Ask.j0 kq t480 x29_3 a0_0 a0_1 a0_2 a0_3 a0_4 a0_5 a0_6 a0_7 a0_8 a0_9=some (r1,r2,r3,r4,r5,r6,r7,r8,r9,r10,r11,r12,r13,r14))∧Aside0 (kq≤k)∧Aside0 (wc.heap[gb478]? =some (.cells #[.int .i64 a0_0,.string a0_1,.int .i64 a0_2,.string a0_3,.string a0_4,.int .i64 a0_5,.int .i64 a0_6,.int .i64 a0_7,.int .i64 a0_8,.int .i64 a0_9] 24 (0,0)))∧Aside0 (wc.heap[gb479]? =some (.cells #[.int .i64 0,.int .i64 0,.int .i64 0,.bool false,.string (⟨#[]⟩:ByteArray),.string (⟨#[]⟩:ByteArray),.int .i64 0,.int .i64 0,.int .i64 0,.int .i64 0,(.slice none 0 0),(.slice none 0 0),(.slice none 0 0)] 34 (0,0)))∧Aside0 (Below w.heap.size w wc))
  case first=>
   have H:=HC4.out;clear HC4
   by_cases c9:a0_0=7
   ·rw [if_pos c9] at H
    have c9b0:(a0_0 == 7)=true:=beq_iff_eq.mpr c9;have c9b1:(a0_0 != 7)=false:=bne_eq_false_iff_eq.mpr c9;clear c9;(first|rw [c9b0]|(simp only [i64_w,i32_w];rw [c9b0])|skip)
    by_cases c10:a0_6=1
    ·rw [if_pos c10] at H
     have c10b0:(a0_6 == 1)=true:=beq_iff_eq.mpr c10;have c10b1:(a0_6 != 1)=false:=bne_eq_false_iff_eq.mpr c10;clear c10;have H':=Aside0.mk H;clear H;have hnb11:=NB478_479.out;have hnc11:=NB479_478.out;obtain⟨hcz12_0,hcz12_1,hcz12_2,hcz12_3,hcz12_4,hcz12_5,hcz12_6,hcz12_7,hcz12_8,hcz12_9⟩:=My.qc10 BK478.out;obtain⟨hfz12_0,hfz12_1,hfz12_2,hfz12_3,hfz12_4,hfz12_5,hfz12_6,hfz12_7,hfz12_8,hfz12_9⟩:=My.qf10 BK478.out
     go_wp2
     go_meet
     case rel=> exact⟨_,((a0_4.toList != ([]:List UInt8))),(by simp;cases a0_4.toList <;> rfl),H',⟨by first|omega|exact Nat.le_refl _⟩,⟨My.Ka BK478.out⟩,⟨My.Ka BK479.out⟩,⟨My.bA⟩⟩
    ·rw [if_neg c10] at H
     have c10b0:(a0_6 == 1)=false:=beq_eq_false_iff_ne.mpr c10;have c10b1:(a0_6 != 1)=true:=bne_iff_ne.mpr c10;have H':=Aside0.mk H;clear H;have hnb13:=NB478_479.out;have hnc13:=NB479_478.out;obtain⟨hcz14_0,hcz14_1,hcz14_2,hcz14_3,hcz14_4,hcz14_5,hcz14_6,hcz14_7,hcz14_8,hcz14_9⟩:=My.qc10 BK478.out;obtain⟨hfz14_0,hfz14_1,hfz14_2,hfz14_3,hfz14_4,hfz14_5,hfz14_6,hfz14_7,hfz14_8,hfz14_9⟩:=My.qf10 BK478.out
     go_wp2
     go_meet
     case rel=> exact⟨_,(false),My.q0,H',⟨by first|omega|exact Nat.le_refl _⟩,⟨My.Ka BK478.out⟩,⟨My.Ka BK479.out⟩,⟨My.bA⟩⟩
   ·rw [if_neg c9] at H
    have c9b0:(a0_0 == 7)=false:=beq_eq_false_iff_ne.mpr c9;have c9b1:(a0_0 != 7)=true:=bne_iff_ne.mpr c9;(first|rw [c9b0]|(simp only [i64_w,i32_w];rw [c9b0])|skip);have H':=Aside0.mk H;clear H;have hnb15:=NB478_479.out;have hnc15:=NB479_478.out;obtain⟨hcz16_0,hcz16_1,hcz16_2,hcz16_3,hcz16_4,hcz16_5,hcz16_6,hcz16_7,hcz16_8,hcz16_9⟩:=My.qc10 BK478.out;obtain⟨hfz16_0,hfz16_1,hfz16_2,hfz16_3,hfz16_4,hfz16_5,hfz16_6,hfz16_7,hfz16_8,hfz16_9⟩:=My.qf10 BK478.out
    go_wp2
    go_meet
    case rel=> exact⟨_,(false),My.q0,H',⟨by first|omega|exact Nat.le_refl _⟩,⟨My.Ka BK478.out⟩,⟨My.Ka BK479.out⟩,⟨My.bA⟩⟩
  case rest=>
   clear HC4;(repeat first|clear c1|clear c2|clear p2|clear c3|clear c7|clear c9|clear c9b0|clear c9b1|clear c10|clear c10b0|clear c10b1|clear c11|clear c13|clear c15|clear hcz12_0|clear hcz12_1|clear hcz12_2|clear hcz12_3|clear hcz12_4|clear hcz12_5|clear hcz12_6|clear hcz12_7|clear hcz12_8|clear hcz12_9|clear hcz14_0|clear hcz14_1|clear hcz14_2|clear hcz14_3|clear hcz14_4|clear hcz14_5|clear hcz14_6|clear hcz14_7|clear hcz14_8|clear hcz14_9|clear hcz16_0|clear hcz16_1|clear hcz16_2|clear hcz16_3|clear hcz16_4|clear hcz16_5|clear hcz16_6|clear hcz16_7|clear hcz16_8|clear hcz16_9|clear hcz8_0|clear hcz8_1|clear hcz8_2|clear hcz8_3|clear hcz8_4|clear hcz8_5|clear hcz8_6|clear hcz8_7|clear hcz8_8|clear hcz8_9|clear hfz12_0|clear hfz12_1|clear hfz12_2|clear hfz12_3|clear hfz12_4|clear hfz12_5|clear hfz12_6|clear hfz12_7|clear hfz12_8|clear hfz12_9|clear hfz14_0|clear hfz14_1|clear hfz14_2|clear hfz14_3|clear hfz14_4|clear hfz14_5|clear hfz14_6|clear hfz14_7|clear hfz14_8|clear hfz14_9|clear hfz16_0|clear hfz16_1|clear hfz16_2|clear hfz16_3|clear hfz16_4|clear hfz16_5|clear hfz16_6|clear hfz16_7|clear hfz16_8|clear hfz16_9|clear hfz8_0|clear hfz8_1|clear hfz8_2|clear hfz8_3|clear hfz8_4|clear hfz8_5|clear hfz8_6|clear hfz8_7|clear hfz8_8|clear hfz8_9);obtain⟨kq,x29_3,rfl,HA,HJ3,BK478,BK479,HB⟩:=hcut
   cases kq with
   |zero=> exact absurd HA.out (by simp [batonref19_Ask.j0])
   |succ kj3=>
    have H:=HA.out;clear HA;simp only [batonref19_Ask.j0] at H
    by_cases c17:x29_3=true
    ·subst c17
     rw [if_pos rfl] at H;replace H:=Option.bind_eq_some_iff.mp H;obtain⟨⟨t482,t485,t488⟩,A180,H⟩:=H;dsimp only at H;have A18:=Aside0.mk A180;clear A180;simp only [Option.some.injEq,Prod.mk.injEq] at H;obtain⟨rfl,rfl,rfl,rfl,rfl,rfl,rfl,rfl,rfl,rfl,rfl,rfl,rfl,rfl⟩:=H;have hnb19:=NB478_479.out;have hnc19:=NB479_478.out;obtain⟨_,_,_,_,_,_,_,_,_,_⟩:=My.qc10 BK478.out;obtain⟨_,_,_,_,_,_,_,_,_,_⟩:=My.qf10 BK478.out
     go_wp2_with (first|((with_reducible refine gate_callee (f:=24) rfl ?_);refine goesL_ (some 34) rfl rfl Try.func24 (by kernel_rfl) rfl #[.string a0_4,.string a0_3,.int .i64 0] rfl My.ar ?_;(with_reducible refine(batonref06_Put.calls a0_4 a0_3 0 t482 t485 t488 _ A18.out).mono ?_);rintro e w21 ⟨v483,v486,v489,rfl,ho0,ho1,ho2,hb⟩;refine⟨_,rfl,?_⟩;have HO484:=My.m (Kd.R_lower ho0 (below_size My.bA));have HO487:=My.m (Kd.R_lower ho1 (below_size My.bA));have HO490:=My.m (Kd.R_lower ho2 (below_size My.bA));replace BK478:=My.m (My.kb BK478.out hb);replace BK479:=My.m (My.kb BK479.out hb);replace HB:=My.m (below_step My.bA hb);(repeat first|clear ho0|clear ho1|clear ho2);obtain⟨Ao22,co22,eo22⟩:=Kd.R_slice HO490.out;subst eo22;obtain⟨Ao23,co23,eo23⟩:=Kd.R_slice HO487.out;subst eo23;obtain⟨Ao24,co24,eo24⟩:=Kd.R_slice HO484.out;subst eo24;obtain⟨_,_,_,_,_,_,_,_,_,_,_,_,_⟩:=My.qc13 BK479.out;obtain⟨_,_,_,_,_,_,_,_,_,_,_,_,_⟩:=My.qf13 BK479.out))
     refine bodyPost_ret (results_ct rfl _ _ gb479 34 #[.int .i64 2,.int .i64 0,.int .i64 0,.bool true,.string (⟨#[]⟩:ByteArray),.string (⟨#[]⟩:ByteArray),.int .i64 0,.int .i64 0,.int .i64 0,.int .i64 0,.slice Ao24 t482.length co24,.slice Ao23 t485.length co23,.slice Ao22 t488.length co22] (0,0) _ rfl (My.qp13 BK479.out) Try.underlying34 rfl (by kernel_rfl)) rfl ?_;exact⟨_,_,_,My.q1,by(with_reducible repeat(first|apply Kd.R_alloc|apply Kd.R_drewN|apply Kd.R_drew));exact Kd.R_mono (My.qr13 (Kd.R_types HO484.out BK479.out (by decide)) (fun _ hk=> hk.2)) (fun _ hk=> trivial),by(with_reducible repeat(first|apply Kd.R_alloc|apply Kd.R_drewN|apply Kd.R_drew));exact Kd.R_mono (My.qr13 (Kd.R_types HO487.out BK479.out (by decide)) (fun _ hk=> hk.2)) (fun _ hk=> hk.1),by(with_reducible repeat(first|apply Kd.R_alloc|apply Kd.R_drewN|apply Kd.R_drew));exact Kd.R_mono (My.qr13 (Kd.R_types HO490.out BK479.out (by decide)) (fun _ hk=> hk.2)) (fun _ hk=> hk.1),My.bA⟩
    ·replace c17:=Bool.eq_false_iff.mpr c17
     subst c17;rw [if_neg (show¬(false=true) by decide)] at H
     by_cases c26:a0_0=8
     ·rw [if_pos c26] at H
      have c26b0:(a0_0 == 8)=true:=beq_iff_eq.mpr c26;have c26b1:(a0_0 != 8)=false:=bne_eq_false_iff_eq.mpr c26;clear c26
      by_cases c27:a0_6=2
      ·rw [if_pos c27] at H
       have c27b0:(a0_6 == 2)=true:=beq_iff_eq.mpr c27;have c27b1:(a0_6 != 2)=false:=bne_eq_false_iff_eq.mpr c27;clear c27;simp only [Option.some.injEq,Prod.mk.injEq] at H;obtain⟨rfl,rfl,rfl,rfl,rfl,rfl,rfl,rfl,rfl,rfl,rfl,rfl,rfl,rfl⟩:=H;have hnb28:=NB478_479.out;have hnc28:=NB479_478.out;obtain⟨_,_,_,_,_,_,_,_,_,_⟩:=My.qc10 BK478.out;obtain⟨_,_,_,_,_,_,_,_,_,_⟩:=My.qf10 BK478.out;obtain⟨_,_,_,_,_,_,_,_,_,_,_,_,_⟩:=My.qc13 BK479.out;obtain⟨_,_,_,_,_,_,_,_,_,_,_,_,_⟩:=My.qf13 BK479.out
       go_wp2
       refine bodyPost_ret (results_ct rfl _ _ gb479 34 #[.int .i64 1,.int .i64 0,.int .i64 0,.bool false,.string t480,.string (⟨#[]⟩:ByteArray),.int .i64 0,.int .i64 0,.int .i64 0,.int .i64 0,.slice none 0 0,.slice none 0 0,.slice none 0 0] (0,0) _ rfl (My.qp13 BK479.out) Try.underlying34 rfl (by kernel_rfl)) rfl ?_;exact⟨_,_,_,My.q1,by first|exact Kd.R_nil _ _ _ _ _|exact Kd.N_nil _ _ _ _ _|exact Kd.V_nil _ _ _ _ _|exact Kd.Q_nil _ _ _ _ _|exact Kd.S_nil _ _ _ _ _,by first|exact Kd.R_nil _ _ _ _ _|exact Kd.N_nil _ _ _ _ _|exact Kd.V_nil _ _ _ _ _|exact Kd.Q_nil _ _ _ _ _|exact Kd.S_nil _ _ _ _ _,by first|exact Kd.R_nil _ _ _ _ _|exact Kd.N_nil _ _ _ _ _|exact Kd.V_nil _ _ _ _ _|exact Kd.Q_nil _ _ _ _ _|exact Kd.S_nil _ _ _ _ _,My.bA⟩
      ·rw [if_neg c27] at H
       have c27b0:(a0_6 == 2)=false:=beq_eq_false_iff_ne.mpr c27;have c27b1:(a0_6 != 2)=true:=bne_iff_ne.mpr c27
       by_cases c31:a0_6=3
       ·rw [if_pos c31] at H
        have c31b0:(a0_6 == 3)=true:=beq_iff_eq.mpr c31;have c31b1:(a0_6 != 3)=false:=bne_eq_false_iff_eq.mpr c31;clear c31;simp only [Option.some.injEq,Prod.mk.injEq] at H;obtain⟨rfl,rfl,rfl,rfl,rfl,rfl,rfl,rfl,rfl,rfl,rfl,rfl,rfl,rfl⟩:=H;have hnb32:=NB478_479.out;have hnc32:=NB479_478.out;obtain⟨_,_,_,_,_,_,_,_,_,_⟩:=My.qc10 BK478.out;obtain⟨_,_,_,_,_,_,_,_,_,_⟩:=My.qf10 BK478.out;obtain⟨_,_,_,_,_,_,_,_,_,_,_,_,_⟩:=My.qc13 BK479.out;obtain⟨_,_,_,_,_,_,_,_,_,_,_,_,_⟩:=My.qf13 BK479.out
        go_wp2
        refine bodyPost_ret (results_ct rfl _ _ gb479 34 #[.int .i64 3,.int .i64 0,.int .i64 0,.bool false,.string t480,.string (⟨#[]⟩:ByteArray),.int .i64 0,.int .i64 a0_8,.int .i64 0,.int .i64 0,.slice none 0 0,.slice none 0 0,.slice none 0 0] (0,0) _ rfl (My.qp13 BK479.out) Try.underlying34 rfl (by kernel_rfl)) rfl ?_;exact⟨_,_,_,My.q1,by first|exact Kd.R_nil _ _ _ _ _|exact Kd.N_nil _ _ _ _ _|exact Kd.V_nil _ _ _ _ _|exact Kd.Q_nil _ _ _ _ _|exact Kd.S_nil _ _ _ _ _,by first|exact Kd.R_nil _ _ _ _ _|exact Kd.N_nil _ _ _ _ _|exact Kd.V_nil _ _ _ _ _|exact Kd.Q_nil _ _ _ _ _|exact Kd.S_nil _ _ _ _ _,by first|exact Kd.R_nil _ _ _ _ _|exact Kd.N_nil _ _ _ _ _|exact Kd.V_nil _ _ _ _ _|exact Kd.Q_nil _ _ _ _ _|exact Kd.S_nil _ _ _ _ _,My.bA⟩
       ·rw [if_neg c31] at H
        have c31b0:(a0_6 == 3)=false:=beq_eq_false_iff_ne.mpr c31;have c31b1:(a0_6 != 3)=true:=bne_iff_ne.mpr c31
        by_cases c35:a0_6=10
        ·rw [if_pos c35] at H
         have c35b0:(a0_6 == 10)=true:=beq_iff_eq.mpr c35;have c35b1:(a0_6 != 10)=false:=bne_eq_false_iff_eq.mpr c35;clear c35;replace H:=Option.bind_eq_some_iff.mp H;obtain⟨⟨t491,t494,t497⟩,A360,H⟩:=H;dsimp only at H;have A36:=Aside0.mk A360;clear A360;simp only [Option.some.injEq,Prod.mk.injEq] at H;obtain⟨rfl,rfl,rfl,rfl,rfl,rfl,rfl,rfl,rfl,rfl,rfl,rfl,rfl,rfl⟩:=H;have hnb37:=NB478_479.out;have hnc37:=NB479_478.out;obtain⟨_,_,_,_,_,_,_,_,_,_⟩:=My.qc10 BK478.out;obtain⟨_,_,_,_,_,_,_,_,_,_⟩:=My.qf10 BK478.out
         go_wp2_with (first|((with_reducible refine gate_callee (f:=25) rfl ?_);refine goesL_ (some 58) rfl rfl Try.func25 (by kernel_rfl) rfl #[.string a0_4,.int .i64 a0_7] rfl My.ar ?_;(with_reducible refine(batonref06_Drop.calls a0_4 a0_7 t491 t494 t497 _ A36.out).mono ?_);rintro e w39 ⟨v492,v495,v498,rfl,ho0,ho1,ho2,hb⟩;refine⟨_,rfl,?_⟩;have HO493:=My.m (Kd.R_lower ho0 (below_size My.bA));have HO496:=My.m (Kd.R_lower ho1 (below_size My.bA));have HO499:=My.m (Kd.R_lower ho2 (below_size My.bA));replace BK478:=My.m (My.kb BK478.out hb);replace BK479:=My.m (My.kb BK479.out hb);replace HB:=My.m (below_step My.bA hb);(repeat first|clear ho0|clear ho1|clear ho2);obtain⟨Ao40,co40,eo40⟩:=Kd.R_slice HO499.out;subst eo40;obtain⟨Ao41,co41,eo41⟩:=Kd.R_slice HO496.out;subst eo41;obtain⟨Ao42,co42,eo42⟩:=Kd.R_slice HO493.out;subst eo42;obtain⟨_,_,_,_,_,_,_,_,_,_,_,_,_⟩:=My.qc13 BK479.out;obtain⟨_,_,_,_,_,_,_,_,_,_,_,_,_⟩:=My.qf13 BK479.out))
         refine bodyPost_ret (results_ct rfl _ _ gb479 34 #[.int .i64 2,.int .i64 0,.int .i64 0,.bool true,.string (⟨#[]⟩:ByteArray),.string (⟨#[]⟩:ByteArray),.int .i64 0,.int .i64 0,.int .i64 0,.int .i64 0,.slice Ao42 t491.length co42,.slice Ao41 t494.length co41,.slice Ao40 t497.length co40] (0,0) _ rfl (My.qp13 BK479.out) Try.underlying34 rfl (by kernel_rfl)) rfl ?_;exact⟨_,_,_,My.q1,by(with_reducible repeat(first|apply Kd.R_alloc|apply Kd.R_drewN|apply Kd.R_drew));exact Kd.R_mono (My.qr13 (Kd.R_types HO493.out BK479.out (by decide)) (fun _ hk=> hk.2)) (fun _ hk=> trivial),by(with_reducible repeat(first|apply Kd.R_alloc|apply Kd.R_drewN|apply Kd.R_drew));exact Kd.R_mono (My.qr13 (Kd.R_types HO496.out BK479.out (by decide)) (fun _ hk=> hk.2)) (fun _ hk=> hk.1),by(with_reducible repeat(first|apply Kd.R_alloc|apply Kd.R_drewN|apply Kd.R_drew));exact Kd.R_mono (My.qr13 (Kd.R_types HO499.out BK479.out (by decide)) (fun _ hk=> hk.2)) (fun _ hk=> hk.1),My.bA⟩
        ·rw [if_neg c35] at H
         have c35b0:(a0_6 == 10)=false:=beq_eq_false_iff_ne.mpr c35;have c35b1:(a0_6 != 10)=true:=bne_iff_ne.mpr c35;simp only [Option.some.injEq,Prod.mk.injEq] at H;obtain⟨rfl,rfl,rfl,rfl,rfl,rfl,rfl,rfl,rfl,rfl,rfl,rfl,rfl,rfl⟩:=H;have hnb44:=NB478_479.out;have hnc44:=NB479_478.out;obtain⟨_,_,_,_,_,_,_,_,_,_⟩:=My.qc10 BK478.out;obtain⟨_,_,_,_,_,_,_,_,_,_⟩:=My.qf10 BK478.out;obtain⟨_,_,_,_,_,_,_,_,_,_,_,_,_⟩:=My.qc13 BK479.out;obtain⟨_,_,_,_,_,_,_,_,_,_,_,_,_⟩:=My.qf13 BK479.out
         go_wp2
         refine bodyPost_ret (results_ct rfl _ _ gb479 34 #[.int .i64 0,.int .i64 0,.int .i64 0,.bool false,.string (⟨#[]⟩:ByteArray),.string (⟨#[]⟩:ByteArray),.int .i64 0,.int .i64 0,.int .i64 0,.int .i64 0,.slice none 0 0,.slice none 0 0,.slice none 0 0] (0,0) _ rfl (My.qp13 BK479.out) Try.underlying34 rfl (by kernel_rfl)) rfl ?_;exact⟨_,_,_,My.q1,by first|exact Kd.R_nil _ _ _ _ _|exact Kd.N_nil _ _ _ _ _|exact Kd.V_nil _ _ _ _ _|exact Kd.Q_nil _ _ _ _ _|exact Kd.S_nil _ _ _ _ _,by first|exact Kd.R_nil _ _ _ _ _|exact Kd.N_nil _ _ _ _ _|exact Kd.V_nil _ _ _ _ _|exact Kd.Q_nil _ _ _ _ _|exact Kd.S_nil _ _ _ _ _,by first|exact Kd.R_nil _ _ _ _ _|exact Kd.N_nil _ _ _ _ _|exact Kd.V_nil _ _ _ _ _|exact Kd.Q_nil _ _ _ _ _|exact Kd.S_nil _ _ _ _ _,My.bA⟩
     ·rw [if_neg c26] at H
      have c26b0:(a0_0 == 8)=false:=beq_eq_false_iff_ne.mpr c26;have c26b1:(a0_0 != 8)=true:=bne_iff_ne.mpr c26;simp only [Option.some.injEq,Prod.mk.injEq] at H;obtain⟨rfl,rfl,rfl,rfl,rfl,rfl,rfl,rfl,rfl,rfl,rfl,rfl,rfl,rfl⟩:=H;have hnb47:=NB478_479.out;have hnc47:=NB479_478.out;obtain⟨_,_,_,_,_,_,_,_,_,_⟩:=My.qc10 BK478.out;obtain⟨_,_,_,_,_,_,_,_,_,_⟩:=My.qf10 BK478.out;obtain⟨_,_,_,_,_,_,_,_,_,_,_,_,_⟩:=My.qc13 BK479.out;obtain⟨_,_,_,_,_,_,_,_,_,_,_,_,_⟩:=My.qf13 BK479.out
      go_wp2
      refine bodyPost_ret (results_ct rfl _ _ gb479 34 #[.int .i64 0,.int .i64 0,.int .i64 0,.bool false,.string (⟨#[]⟩:ByteArray),.string (⟨#[]⟩:ByteArray),.int .i64 0,.int .i64 0,.int .i64 0,.int .i64 0,.slice none 0 0,.slice none 0 0,.slice none 0 0] (0,0) _ rfl (My.qp13 BK479.out) Try.underlying34 rfl (by kernel_rfl)) rfl ?_;exact⟨_,_,_,My.q1,by first|exact Kd.R_nil _ _ _ _ _|exact Kd.N_nil _ _ _ _ _|exact Kd.V_nil _ _ _ _ _|exact Kd.Q_nil _ _ _ _ _|exact Kd.S_nil _ _ _ _ _,by first|exact Kd.R_nil _ _ _ _ _|exact Kd.N_nil _ _ _ _ _|exact Kd.V_nil _ _ _ _ _|exact Kd.Q_nil _ _ _ _ _|exact Kd.S_nil _ _ _ _ _,by first|exact Kd.R_nil _ _ _ _ _|exact Kd.N_nil _ _ _ _ _|exact Kd.V_nil _ _ _ _ _|exact Kd.Q_nil _ _ _ _ _|exact Kd.S_nil _ _ _ _ _,My.bA⟩
 ·replace c3:=Bool.eq_false_iff.mpr c3
  subst c3;rw [if_neg (show¬(false=true) by decide)] at H;simp only [Option.some.injEq,Prod.mk.injEq] at H;obtain⟨rfl,rfl,rfl,rfl,rfl,rfl,rfl,rfl,rfl,rfl,rfl,rfl,rfl,rfl⟩:=H
  go_enter Try.func10,Try.ntmps10
  go_wp2_with (first|((with_reducible refine gate_dst (N:=1) rfl ?_);refine My.be 1 24 #[.int .i64 a0_0,.string a0_1,.int .i64 a0_2,.string a0_3,.string a0_4,.int .i64 a0_5,.int .i64 a0_6,.int .i64 a0_7,.int .i64 a0_8,.int .i64 a0_9] ?_;intro gb478 hg w50 hbox hb;have BK478:=My.m hbox;have GW478:=My.m ((My.nw w hg My.bB));have GE478:=My.m ((My.nw w hg My.bB));replace HB:=My.m (below_step My.bB hb);clear hb hbox hg)|((with_reducible refine gate_dst (N:=2) rfl ?_);refine My.be 2 34 #[.int .i64 0,.int .i64 0,.int .i64 0,.bool false,.string (⟨#[]⟩:ByteArray),.string (⟨#[]⟩:ByteArray),.int .i64 0,.int .i64 0,.int .i64 0,.int .i64 0,.slice none 0 0,.slice none 0 0,.slice none 0 0] ?_;intro gb479 hg w51 hbox hb;have BK479:=My.m hbox;have GW479:=My.m ((My.nw w hg My.bA));have GE479:=My.m ((My.nw w hg My.bA));replace HB:=My.m (below_step My.bA hb);have NB478_479:=My.m ((My.nl hg BK478));have NB479_478:=My.m ((My.nr hg BK478));replace BK478:=My.m (My.kb BK478.out hb);clear hb hbox hg;have hnb52:=NB478_479.out;have hnc52:=NB479_478.out;obtain⟨_,_,_,_,_,_,_,_,_,_⟩:=My.qc10 BK478.out;obtain⟨_,_,_,_,_,_,_,_,_,_⟩:=My.qf10 BK478.out)|((with_reducible refine gate_callee (f:=23) rfl ?_);refine goesL_ (some 11) rfl rfl Try.func23 (by kernel_rfl) rfl #[.int .i64 a0_0,.string a0_1] rfl My.ar ?_;(with_reducible refine(batonref02_Prefix.calls k a0_0 a0_1 t480 false _ A2.out).mono ?_);rintro e w' ⟨rfl,⟨nd,rfl⟩⟩;refine⟨_,rfl,?_⟩;(try(rw [drewN_self w51];generalize hq_:World.drewN w51 _=w51;have n0_:Aside0 (w51.heap[gb478]? =some (.cells #[.int .i64 a0_0,.string a0_1,.int .i64 a0_2,.string a0_3,.string a0_4,.int .i64 a0_5,.int .i64 a0_6,.int .i64 a0_7,.int .i64 a0_8,.int .i64 a0_9] 24 (0,0))):=⟨by rw [←hq_];exact(My.Ka BK478.out)⟩;have n1_:Aside0 (w51.heap[gb479]? =some (.cells #[.int .i64 0,.int .i64 0,.int .i64 0,.bool false,.string (⟨#[]⟩:ByteArray),.string (⟨#[]⟩:ByteArray),.int .i64 0,.int .i64 0,.int .i64 0,.int .i64 0,.slice none 0 0,.slice none 0 0,.slice none 0 0] 34 (0,0))):=⟨by rw [←hq_];exact(My.Ka BK479.out)⟩;have n2_:Aside0 (Below w.heap.size w w51):=⟨by rw [←hq_];exact My.bA⟩;clear BK478 BK479 HB hq_;have BK478:=n0_;have BK479:=n1_;have HB:=n2_;clear n0_ n1_ n2_));obtain⟨_,_,_,_,_,_,_,_,_,_,_,_,_⟩:=My.qc13 BK479.out;obtain⟨_,_,_,_,_,_,_,_,_,_,_,_,_⟩:=My.qf13 BK479.out))
  refine bodyPost_ret (results_ct rfl _ _ gb479 34 #[.int .i64 0,.int .i64 0,.int .i64 0,.bool false,.string (⟨#[]⟩:ByteArray),.string (⟨#[]⟩:ByteArray),.int .i64 0,.int .i64 0,.int .i64 0,.int .i64 0,.slice none 0 0,.slice none 0 0,.slice none 0 0] (0,0) _ rfl (My.qp13 BK479.out) Try.underlying34 rfl (by kernel_rfl)) rfl ?_;exact⟨_,_,_,My.q1,by first|exact Kd.R_nil _ _ _ _ _|exact Kd.N_nil _ _ _ _ _|exact Kd.V_nil _ _ _ _ _|exact Kd.Q_nil _ _ _ _ _|exact Kd.S_nil _ _ _ _ _,by first|exact Kd.R_nil _ _ _ _ _|exact Kd.N_nil _ _ _ _ _|exact Kd.V_nil _ _ _ _ _|exact Kd.Q_nil _ _ _ _ _|exact Kd.S_nil _ _ _ _ _,by first|exact Kd.R_nil _ _ _ _ _|exact Kd.N_nil _ _ _ _ _|exact Kd.V_nil _ _ _ _ _|exact Kd.Q_nil _ _ _ _ _|exact Kd.S_nil _ _ _ _ _,My.bA⟩

/-! ### batonref02_Ticket: function 27 -/
mutual
def batonref02_Ticket.j0:Nat→Int→ByteArray→Bool→Option (ByteArray×Bool)
  |0,_,_,_=> none
  |k + 1,x2,x8,x28=> if x28=true then (some ((⟨#[]⟩:ByteArray),false)) else (batonref02_Ticket.l0 k x2 x8 (⟨#[48,49,50,51,52,53,54,55,56,57,97,98,99,100,101,102]⟩:ByteArray) (⟨#[]⟩:ByteArray) 0)
def batonref02_Ticket.l0:Nat→Int→ByteArray→ByteArray→ByteArray→Int→Option (ByteArray×Bool)
  |0,_,_,_,_,_=> none
  |k + 1,x2,x8,x10,x11,x12=> if x12 < 10 then (if 0≤(Int.tmod x2 16) then (if (Int.tmod x2 16)≤(wrap64 ((Int.tmod x2 16) + 1)) then (if (wrap64 ((Int.tmod x2 16) + 1))≤(x10.size:Int) then (if (x10.extract ((Int.tmod x2 16):Int).toNat ((wrap64 ((Int.tmod x2 16) + 1)):Int).toNat).size + x11.size≤9223372036854775807 then (batonref02_Ticket.l0 k (wrap64 (Int.tdiv x2 16)) x8 x10 ((x10.extract ((Int.tmod x2 16):Int).toNat ((wrap64 ((Int.tmod x2 16) + 1)):Int).toNat) ++ x11) (wrap64 (x12 + 1))) else (none)) else (none)) else (none)) else (none)) else (if x8.size + x11.size≤9223372036854775807 then (some (x8 ++ x11,true)) else (none))
end
def batonref02_Ticket.f (k:Nat) (a0:Int) (a1:ByteArray) (a2:Int):Option (ByteArray×Bool):=(batonref02_Prefix.f k a0 a1).bind fun bt500=> (if bt500.2=true then (if a2 < 0 then (batonref02_Ticket.j0 k a2 bt500.1 true) else (batonref02_Ticket.j0 k a2 bt500.1 (decide (a2 > 1099511627775)))) else (batonref02_Ticket.j0 k a2 bt500.1 true))
theorem batonref02_Ticket.mono_l:∀k,(∀y0 y1 y2,LeO (batonref02_Ticket.j0 k y0 y1 y2) (batonref02_Ticket.j0 (k + 1) y0 y1 y2))∧(∀y0 y1 y2 y3 y4,LeO (batonref02_Ticket.l0 k y0 y1 y2 y3 y4) (batonref02_Ticket.l0 (k + 1) y0 y1 y2 y3 y4))
  |0=> ⟨fun _ _ _ r h=> by simp [batonref02_Ticket.j0] at h,fun _ _ _ _ _ r h=> by simp [batonref02_Ticket.l0] at h⟩
  |k + 1=> by
    obtain⟨ih0,ih1⟩:=batonref02_Ticket.mono_l k
    refine⟨?_,?_⟩
    · intro y0 y1 y2
      unfold batonref02_Ticket.j0
      have ic0:= @batonref02_Prefix.mono;exact My.mono_
    · intro y0 y1 y2 y3 y4
      unfold batonref02_Ticket.l0
      have ic0:= @batonref02_Prefix.mono;exact My.mono_
theorem batonref02_Ticket.mono:∀a0 a1 a2 k,LeO (batonref02_Ticket.f k a0 a1 a2) (batonref02_Ticket.f (k + 1) a0 a1 a2):=by
  intro a0 a1 a2 k
  obtain⟨ih0,ih1⟩:=batonref02_Ticket.mono_l k
  unfold batonref02_Ticket.f
  have ic0:= @batonref02_Prefix.mono;exact My.mono_
set_option maxHeartbeats 80000000 in
set_option maxRecDepth 100000 in
theorem batonref02_Ticket.calls (k:Nat) (a0:Int) (a1:ByteArray) (a2:Int) (r1:ByteArray) (r2:Bool) (w:World) (h:batonref02_Ticket.f k a0 a1 a2=some (r1,r2)):
    Calls Try.prog 27 #[.int .i64 a0,.string a1,.int .i64 a2] w fun e w'=> e= .returned (.tuple #[.string r1,.bool r2])∧Drawn0 w w':=by
  have H:=h;clear h;unfold batonref02_Ticket.f at H;replace H:=Option.bind_eq_some_iff.mp H;obtain⟨⟨t500,t501⟩,A40,H⟩:=H;dsimp only at H;have A4:=Aside0.mk A40;clear A40;have HC5:=Aside0.mk H;clear H
  go_enter Try.func27,Try.ntmps27
  go_upto_region 2 with (first|((with_reducible refine gate_callee (f:=23) rfl ?_);refine goesL_ (some 16) rfl rfl Try.func23 (by kernel_rfl) rfl #[.int .i64 a0,.string a1] rfl My.ar ?_;(with_reducible refine(batonref02_Prefix.calls k a0 a1 t500 t501 _ A4.out).mono ?_);rintro e w' ⟨rfl,⟨nd,rfl⟩⟩;refine⟨_,rfl,?_⟩))
  (try simp only [Act.put,List.setIfInBounds_toArray,List.set_cons_zero,List.set_cons_succ])
  go_cut [28] (fun v28 wc=> ∃(kq:Nat) (x28_4:Bool),v28= .bool x28_4∧Aside0 (batonref02_Ticket.j0 kq a2 t500 x28_4=some (r1,r2))∧Aside0 (kq≤k)∧Drawn0 w wc)
  case first=>
    have H:=HC5.out;clear HC5
    by_cases c6:t501=true
    · subst c6
      rw [if_pos rfl] at H
      by_cases c7:a2 < 0
      · rw [if_pos c7] at H
        have c7b0:=decide_eq_true c7;clear c7;(first|rw [c7b0]|(simp only [i64_w,i32_w];rw [c7b0])|skip);have H':=Aside0.mk H;clear H
        go_wp2
        go_meet
        case rel=> exact⟨_,(true),My.q0,H',⟨by first|omega|exact Nat.le_refl _⟩,My.dD⟩
      · rw [if_neg c7] at H
        have c7b0:=decide_eq_false c7;clear c7;(first|rw [c7b0]|(simp only [i64_w,i32_w];rw [c7b0])|skip);have H':=Aside0.mk H;clear H
        go_wp2
        go_meet
        case rel=> exact⟨_,(decide (a2 > 1099511627775)),My.q0,H',⟨by first|omega|exact Nat.le_refl _⟩,My.dD⟩
    · replace c6:=Bool.eq_false_iff.mpr c6
      subst c6;rw [if_neg (show¬(false=true) by decide)] at H;have H':=Aside0.mk H;clear H
      go_wp2
      go_meet
      case rel=> exact⟨_,(true),My.q0,H',⟨by first|omega|exact Nat.le_refl _⟩,My.dD⟩
  case rest=>
    clear HC5;(repeat first|clear c2|clear p2|clear c6|clear c7|clear c7b0);obtain⟨kq,x28_4,rfl,HA,HJ4,⟨mc4,rfl⟩⟩:=hcut
    cases kq with
    |zero=> exact absurd HA.out (by simp [batonref02_Ticket.j0])
    |succ kj4=>
      have H:=HA.out;clear HA;simp only [batonref02_Ticket.j0] at H
      by_cases c8:x28_4=true
      · subst c8
        rw [if_pos rfl] at H;simp only [Option.some.injEq,Prod.mk.injEq] at H;obtain⟨rfl,rfl⟩:=H
        go_wp2
        go_ret2
        exact⟨My.q0,My.dD⟩
      · replace c8:=Bool.eq_false_iff.mpr c8
        subst c8;rw [if_neg (show¬(false=true) by decide)] at H;have H':=Aside0.mk H;clear H
        go_wp2
        go_loopg [2,11,12] kj4 (fun kq v2 v11 v12 w'=> ∃(x2_2:Int) (x11_2:ByteArray) (x12_2:Int),v2= .int .i64 x2_2∧v11= .string x11_2∧v12= .int .i64 x12_2∧Aside0 (batonref02_Ticket.l0 kq x2_2 t500 (⟨#[48,49,50,51,52,53,54,55,56,57,97,98,99,100,101,102]⟩:ByteArray) x11_2 x12_2=some (r1,r2))∧Aside0 (kq≤kj4)∧Drawn0 w w')
        case atStart=> exact⟨(a2),((⟨#[]⟩:ByteArray)),(0),My.q0,My.q0,My.q0,H',⟨Nat.le_refl _⟩,My.dD⟩
        case round=>
          clear H';(repeat first|clear c2|clear p2|clear c4|clear c6|clear c7|clear c7b0|clear c8|clear p2);obtain⟨x2_2,x11_2,x12_2,rfl,rfl,rfl,HA,HK2,⟨m2,rfl⟩⟩:=hrel
          cases gk with
          |zero=> exact absurd HA.out (by simp [batonref02_Ticket.l0])
          |succ k2=>
            have H:=HA.out;clear HA;simp only [batonref02_Ticket.l0] at H
            by_cases c9:x12_2 < 10
            · rw [if_pos c9] at H
              have c9b0:=decide_eq_true c9;clear c9;obtain⟨ji10,hji10⟩:∃j_:Int,(Int.tmod x2_2 16)=j_:=⟨_,rfl⟩;(replace H:(if 0≤(ji10) then (if (ji10)≤(wrap64 ((ji10) + 1)) then (if (wrap64 ((ji10) + 1))≤((⟨#[48,49,50,51,52,53,54,55,56,57,97,98,99,100,101,102]⟩:ByteArray).size:Int) then (if ((⟨#[48,49,50,51,52,53,54,55,56,57,97,98,99,100,101,102]⟩:ByteArray).extract ((ji10):Int).toNat ((wrap64 ((ji10) + 1)):Int).toNat).size + x11_2.size≤9223372036854775807 then (batonref02_Ticket.l0 k2 (wrap64 (Int.tdiv x2_2 16)) t500 (⟨#[48,49,50,51,52,53,54,55,56,57,97,98,99,100,101,102]⟩:ByteArray) (((⟨#[48,49,50,51,52,53,54,55,56,57,97,98,99,100,101,102]⟩:ByteArray).extract ((ji10):Int).toNat ((wrap64 ((ji10) + 1)):Int).toNat) ++ x11_2) (wrap64 (x12_2 + 1))) else (none)) else (none)) else (none)) else (none))=some (r1,r2):=by first|(rw [hji10] at H;exact H)|(simp only [hji10] at H⊢;exact H))
              by_cases c11:0≤(ji10)
              · rw [if_pos c11] at H
                have c11b0:=eq_true c11;have c11b1:decide (0≤(ji10))=true:=decide_eq_true c11;clear c11
                by_cases c12:(ji10)≤(wrap64 ((ji10) + 1))
                · rw [if_pos c12] at H
                  have c12b0:=eq_true c12;have c12b1:decide ((ji10)≤(wrap64 ((ji10) + 1)))=true:=decide_eq_true c12
                  by_cases c13:(wrap64 ((ji10) + 1))≤((⟨#[48,49,50,51,52,53,54,55,56,57,97,98,99,100,101,102]⟩:ByteArray).size:Int)
                  · rw [if_pos c13] at H
                    have c13b0:=eq_true c13;have c13b1:decide ((wrap64 ((ji10) + 1))≤((⟨#[48,49,50,51,52,53,54,55,56,57,97,98,99,100,101,102]⟩:ByteArray).size:Int))=true:=decide_eq_true c13;(try(have c13b7:decide ((wrap64 ((ji10) + 1))≤(16:Int))=true:=c13b1));(try(have c13b8:((wrap64 ((ji10) + 1))≤(16:Int))=True:=c13b0))
                    by_cases c14:((⟨#[48,49,50,51,52,53,54,55,56,57,97,98,99,100,101,102]⟩:ByteArray).extract ((ji10):Int).toNat ((wrap64 ((ji10) + 1)):Int).toNat).size + x11_2.size≤9223372036854775807
                    · rw [if_pos c14] at H
                      have c14b0:=eq_true c14;have c14b1:decide (((⟨#[48,49,50,51,52,53,54,55,56,57,97,98,99,100,101,102]⟩:ByteArray).extract ((ji10):Int).toNat ((wrap64 ((ji10) + 1)):Int).toNat).size + x11_2.size≤9223372036854775807)=true:=decide_eq_true c14;(try have c14b2:(9223372036854775807 < ((⟨#[48,49,50,51,52,53,54,55,56,57,97,98,99,100,101,102]⟩:ByteArray).extract ((ji10):Int).toNat ((wrap64 ((ji10) + 1)):Int).toNat).size + x11_2.size)=False:=eq_false (Nat.not_lt.2 c14));(try(have c14b5:=c14b2;simp only [ByteArray.size_append,ByteArray.size_extract,My.size_mk,List.size_toArray,List.length_cons,List.length_nil,Nat.zero_add,Nat.reduceAdd] at c14b5));(try(have c14b6:(9223372036854775807 < ((⟨#[48,49,50,51,52,53,54,55,56,57,97,98,99,100,101,102]⟩:ByteArray).extract ((ji10):Int).toNat ((wrap64 ((ji10) + 1)):Int).toNat).size)=False:=eq_false (by have:=c14;omega);simp only [ByteArray.size_append,ByteArray.size_extract,My.size_mk,List.size_toArray,List.length_cons,List.length_nil,Nat.zero_add,Nat.reduceAdd] at c14b6));have H':=Aside0.mk H;clear H
                      go_wp2
                      go_roundg k2
                      case measure=> have:=HJ4.out;have:=HK2.out;omega
                      case rel=> exact⟨(wrap64 (Int.tdiv x2_2 16)),(((⟨#[48,49,50,51,52,53,54,55,56,57,97,98,99,100,101,102]⟩:ByteArray).extract ((ji10):Int).toNat ((wrap64 ((ji10) + 1)):Int).toNat) ++ x11_2),(wrap64 (x12_2 + 1)),My.q0,(by first|rfl|(simp;done)|(simp only [←hji10] <;> (first|rfl|simp))|(simp [*];done)),My.q0,H',⟨by have:=HJ4.out;have:=HK2.out;omega⟩,My.dD⟩
                    · exact My.no c14 H
                  · exact My.no c13 H
                · exact My.no c12 H
              · exact My.no c11 H
            · rw [if_neg c9] at H
              have c9b0:=decide_eq_false c9;clear c9
              by_cases c15:t500.size + x11_2.size≤9223372036854775807
              · rw [if_pos c15] at H
                have c15b0:=eq_true c15;have c15b1:decide (t500.size + x11_2.size≤9223372036854775807)=true:=decide_eq_true c15;(try have c15b2:(9223372036854775807 < t500.size + x11_2.size)=False:=eq_false (Nat.not_lt.2 c15));simp only [Option.some.injEq,Prod.mk.injEq] at H;obtain⟨rfl,rfl⟩:=H
                go_wp2
                go_ret2
                exact⟨My.q0,My.dD⟩
              · exact My.no c15 H

end Go.Proofs.Ytlmiojialcdcmaa.PM
