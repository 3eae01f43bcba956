import Derived.Test.YtlmiojialcdcmaaPM0
import Derived.Test.YtlmiojialcdcmaaPM10
namespace Go.Proofs.Ytlmiojialcdcmaa.PM
open Go.RowKit Go.Proofs.YtlmiojialcdcmaaW.PrintWords Go.Proofs.YtlmiojialcdcmaaW.PrintLast Go.Proofs.YtlmiojialcdcmaaW.PrintMore
attribute [local go_sem] max2_int min2_int max_two min_two max_three min_three max_four min_four
attribute [local go_sem high] Go.Proofs.Ytlmiojialcdcmaa.My.str_leq Go.Proofs.Ytlmiojialcdcmaa.My.str_gtr Go.Proofs.Ytlmiojialcdcmaa.My.str_geq
set_option linter.unusedVariables false
set_option linter.unusedSimpArgs false

theorem issaPM27 (w : World) (a b : Addr) (v : Value) : ((w.setCell a v).cell? b).isSome = (w.cell? b).isSome := by
  by_cases h : a = b
  · subst h
    cases hc : w.cell? a with
    | some u => rw [World.cell?_setCell_same w a v hc]; rfl
    | none =>
      simp only [World.cell?] at hc
      simp only [World.setCell, World.cell?, Array.getElem?_modify, if_true]
      cases hh : w.heap[a.block]? with
      | none => simp
      | some x =>
        rw [hh] at hc
        cases x <;> simp_all
  · rw [World.cell?_setCell_other w a b v h]
attribute [local go_sem] issaPM27
/-! ### batonref03_Few: function 14 -/
def batonref03_Few.l0:Nat→List (S49)→Int→Option (Bool)
  |0,_,_=> none
  |k + 1,x0,x5=> if x5 < (x0.length:Int) then (if 0≤x5 then (if (((rd_T49 x0 x5).f0).size:Int) > 60 then (some false) else (if (((rd_T49 x0 x5).f1).size:Int) > 60 then (some false) else (batonref03_Few.l0 k x0 (wrap64 (x5 + 1))))) else (none)) else (some true)
def batonref03_Few.f (k:Nat) (l0:List (S49)) (a1:Int):Option (Bool):=if (l0.length:Int) > a1 then (some false) else (batonref03_Few.l0 k l0 0)
theorem batonref03_Few.mono_l:∀k,(∀y0 y1,LeO (batonref03_Few.l0 k y0 y1) (batonref03_Few.l0 (k + 1) y0 y1))
  |0=> fun _ _ r h=> by simp [batonref03_Few.l0] at h
  |k + 1=> by
    have ih0:=batonref03_Few.mono_l k
    · intro y0 y1
      unfold batonref03_Few.l0
      exact My.mono_
theorem batonref03_Few.mono:∀a0 a1 k,LeO (batonref03_Few.f k a0 a1) (batonref03_Few.f (k + 1) a0 a1):=by
  intro a0 a1 k
  have ih0:=batonref03_Few.mono_l k
  unfold batonref03_Few.f
  exact My.mono_
set_option maxHeartbeats 80000000 in
set_option maxRecDepth 100000 in
theorem batonref03_Few.calls (k:Nat) (A0:Option Addr) (c0:Nat) (l0:List (S49)) (a1:Int) (r:Bool) (w:World) (hr0:Kd.C k49 w A0 l0.length l0) (hc0:l0.length≤c0) (h:batonref03_Few.f k l0 a1=some r):
    Calls Try.prog 14 #[.slice A0 l0.length c0,.int .i64 a1] w fun e w'=> e= .returned (.bool r)∧Drawn0 w w':=by
  have HR0:=Aside0.mk hr0;have HC0:=Aside0.mk hc0;clear hr0 hc0;have H:(if (l0.length:Int) > a1 then (some false) else (batonref03_Few.l0 k l0 0))=some r:=h;clear h
  by_cases c3:(l0.length:Int) > a1
  · rw [if_pos c3] at H
    have c3b0:=decide_eq_true c3;clear c3;obtain rfl:=Option.some.inj H
    go_enter Try.func14,Try.ntmps14
    go_wp2
    go_ret
    exact⟨My.q0,My.dD⟩
  · rw [if_neg c3] at H
    have c3b0:=decide_eq_false c3;clear c3;have H':=Aside0.mk H;clear H
    go_enter Try.func14,Try.ntmps14
    go_wp2
    go_loopg [5] k (fun kq v5 w'=> ∃(x5_1:Int),v5= .int .i64 x5_1∧Aside0 (batonref03_Few.l0 kq l0 x5_1=some r)∧Aside0 (kq≤k)∧Drawn0 w w')
    case atStart=> exact⟨(0),My.q0,H',⟨Nat.le_refl _⟩,My.dD⟩
    case round=>
      clear H';(repeat first|clear c1|clear p2|clear c3|clear c3b0);obtain⟨x5_1,rfl,HA,HK1,⟨m1,rfl⟩⟩:=hrel
      cases gk with
      |zero=> exact absurd HA.out (by simp [batonref03_Few.l0])
      |succ k1=>
        have H:=HA.out;clear HA;simp only [batonref03_Few.l0] at H
        by_cases c4:x5_1 < (l0.length:Int)
        · rw [if_pos c4] at H
          have c4b0:=decide_eq_true c4;clear c4
          by_cases c5:0≤x5_1
          · rw [if_pos c5] at H
            have c5b0:=decide_eq_true c5;clear c5
            by_cases c6:(((rd_T49 l0 x5_1).f0).size:Int) > 60
            · rw [if_pos c6] at H
              have c6b0:=decide_eq_true c6;have c6b1:decide (60 < ((rd_T49 l0 x5_1).f0).size)=true:=decide_eq_true (by omega);clear c6;obtain rfl:=Option.some.inj H;have p626:0≤(x5_1:Int):=of_decide_eq_true My.as;have q626:x5_1 < (l0.length:Int):=of_decide_eq_true My.as;obtain⟨ad626,e626,hx626_0,hx626_1,hx626_2,hx626_3,hx626_4,hx626_5⟩:=at_T49 HR0.out x5_1 p626 q626;cases e626;replace p626:=eq_true p626;replace q626:=eq_true q626
              go_wp2
              go_ret
              exact⟨My.q0,My.dD⟩
            · rw [if_neg c6] at H
              have c6b0:=decide_eq_false c6;have c6b1:decide (60 < ((rd_T49 l0 x5_1).f0).size)=false:=decide_eq_false (by omega);clear c6
              by_cases c7:(((rd_T49 l0 x5_1).f1).size:Int) > 60
              · rw [if_pos c7] at H
                have c7b0:=decide_eq_true c7;have c7b1:decide (60 < ((rd_T49 l0 x5_1).f1).size)=true:=decide_eq_true (by omega);clear c7;obtain rfl:=Option.some.inj H;have p626:0≤(x5_1:Int):=of_decide_eq_true My.as;have q626:x5_1 < (l0.length:Int):=of_decide_eq_true My.as;obtain⟨ad626,e626,hx626_0,hx626_1,hx626_2,hx626_3,hx626_4,hx626_5⟩:=at_T49 HR0.out x5_1 p626 q626;cases e626;replace p626:=eq_true p626;replace q626:=eq_true q626;have p627:0≤(x5_1:Int):=of_decide_eq_true My.as;have q627:x5_1 < (l0.length:Int):=of_decide_eq_true My.as;obtain⟨ad627,e627,hx627_0,hx627_1,hx627_2,hx627_3,hx627_4,hx627_5⟩:=at_T49 HR0.out x5_1 p627 q627;obtain rfl:ad626=ad627:=(by injection e627);replace p627:=eq_true p627;replace q627:=eq_true q627
                go_wp2
                go_ret
                exact⟨My.q0,My.dD⟩
              · rw [if_neg c7] at H
                have c7b0:=decide_eq_false c7;have c7b1:decide (60 < ((rd_T49 l0 x5_1).f1).size)=false:=decide_eq_false (by omega);clear c7;have H':=Aside0.mk H;clear H;have p626:0≤(x5_1:Int):=of_decide_eq_true My.as;have q626:x5_1 < (l0.length:Int):=of_decide_eq_true My.as;obtain⟨ad626,e626,hx626_0,hx626_1,hx626_2,hx626_3,hx626_4,hx626_5⟩:=at_T49 HR0.out x5_1 p626 q626;cases e626;replace p626:=eq_true p626;replace q626:=eq_true q626;have p627:0≤(x5_1:Int):=of_decide_eq_true My.as;have q627:x5_1 < (l0.length:Int):=of_decide_eq_true My.as;obtain⟨ad627,e627,hx627_0,hx627_1,hx627_2,hx627_3,hx627_4,hx627_5⟩:=at_T49 HR0.out x5_1 p627 q627;obtain rfl:ad626=ad627:=(by injection e627);replace p627:=eq_true p627;replace q627:=eq_true q627
                go_wp2
                go_roundg k1
                case measure=> have:=HK1.out;omega
                case rel=> exact⟨(wrap64 (x5_1 + 1)),My.q0,H',⟨by have:=HK1.out;omega⟩,My.dD⟩
          · exact My.no c5 H
        · rw [if_neg c4] at H
          have c4b0:=decide_eq_false c4;clear c4;obtain rfl:=Option.some.inj H
          go_wp2
          go_ret
          exact⟨My.q0,My.dD⟩

/-! ### batonref03_FewEvents: function 15 -/
def batonref03_FewEvents.l0:Nat→List (S65)→Int→Option (Bool)
  |0,_,_=> none
  |k + 1,x0,x5=> if x5 < (x0.length:Int) then (if 0≤x5 then (if (((rd_T65 x0 x5).f2.f0).size:Int) > 60 then (some false) else (if (((rd_T65 x0 x5).f2.f1).size:Int) > 60 then (some false) else (batonref03_FewEvents.l0 k x0 (wrap64 (x5 + 1))))) else (none)) else (some true)
def batonref03_FewEvents.f (k:Nat) (l0:List (S65)) (a1:Int):Option (Bool):=if (l0.length:Int) > a1 then (some false) else (batonref03_FewEvents.l0 k l0 0)
theorem batonref03_FewEvents.mono_l:∀k,(∀y0 y1,LeO (batonref03_FewEvents.l0 k y0 y1) (batonref03_FewEvents.l0 (k + 1) y0 y1))
  |0=> fun _ _ r h=> by simp [batonref03_FewEvents.l0] at h
  |k + 1=> by
    have ih0:=batonref03_FewEvents.mono_l k
    · intro y0 y1
      unfold batonref03_FewEvents.l0
      exact My.mono_
theorem batonref03_FewEvents.mono:∀a0 a1 k,LeO (batonref03_FewEvents.f k a0 a1) (batonref03_FewEvents.f (k + 1) a0 a1):=by
  intro a0 a1 k
  have ih0:=batonref03_FewEvents.mono_l k
  unfold batonref03_FewEvents.f
  exact My.mono_
set_option maxHeartbeats 80000000 in
set_option maxRecDepth 100000 in
theorem batonref03_FewEvents.calls (k:Nat) (A0:Option Addr) (c0:Nat) (l0:List (S65)) (a1:Int) (r:Bool) (w:World) (hr0:Kd.C k65 w A0 l0.length l0) (hc0:l0.length≤c0) (h:batonref03_FewEvents.f k l0 a1=some r):
    Calls Try.prog 15 #[.slice A0 l0.length c0,.int .i64 a1] w fun e w'=> e= .returned (.bool r)∧Drawn0 w w':=by
  have HR0:=Aside0.mk hr0;have HC0:=Aside0.mk hc0;clear hr0 hc0;have H:(if (l0.length:Int) > a1 then (some false) else (batonref03_FewEvents.l0 k l0 0))=some r:=h;clear h
  by_cases c3:(l0.length:Int) > a1
  · rw [if_pos c3] at H
    have c3b0:=decide_eq_true c3;clear c3;obtain rfl:=Option.some.inj H
    go_enter Try.func15,Try.ntmps15
    go_wp2
    go_ret
    exact⟨My.q0,My.dD⟩
  · rw [if_neg c3] at H
    have c3b0:=decide_eq_false c3;clear c3;have H':=Aside0.mk H;clear H
    go_enter Try.func15,Try.ntmps15
    go_wp2
    go_loopg [5] k (fun kq v5 w'=> ∃(x5_1:Int),v5= .int .i64 x5_1∧Aside0 (batonref03_FewEvents.l0 kq l0 x5_1=some r)∧Aside0 (kq≤k)∧Drawn0 w w')
    case atStart=> exact⟨(0),My.q0,H',⟨Nat.le_refl _⟩,My.dD⟩
    case round=>
      clear H';(repeat first|clear c1|clear p2|clear c3|clear c3b0);obtain⟨x5_1,rfl,HA,HK1,⟨m1,rfl⟩⟩:=hrel
      cases gk with
      |zero=> exact absurd HA.out (by simp [batonref03_FewEvents.l0])
      |succ k1=>
        have H:=HA.out;clear HA;simp only [batonref03_FewEvents.l0] at H
        by_cases c4:x5_1 < (l0.length:Int)
        · rw [if_pos c4] at H
          have c4b0:=decide_eq_true c4;clear c4
          by_cases c5:0≤x5_1
          · rw [if_pos c5] at H
            have c5b0:=decide_eq_true c5;clear c5
            by_cases c6:(((rd_T65 l0 x5_1).f2.f0).size:Int) > 60
            · rw [if_pos c6] at H
              have c6b0:=decide_eq_true c6;have c6b1:decide (60 < ((rd_T65 l0 x5_1).f2.f0).size)=true:=decide_eq_true (by omega);clear c6;obtain rfl:=Option.some.inj H;have p628:0≤(x5_1:Int):=of_decide_eq_true My.as;have q628:x5_1 < (l0.length:Int):=of_decide_eq_true My.as;obtain⟨ad628,e628,hx628_0,hx628_1,hx628_2,hx628_3,hx628_4,hx628_5,hx628_6,hx628_7⟩:=at_T65 HR0.out x5_1 p628 q628;cases e628;replace p628:=eq_true p628;replace q628:=eq_true q628
              go_wp2
              go_ret
              exact⟨My.q0,My.dD⟩
            · rw [if_neg c6] at H
              have c6b0:=decide_eq_false c6;have c6b1:decide (60 < ((rd_T65 l0 x5_1).f2.f0).size)=false:=decide_eq_false (by omega);clear c6
              by_cases c7:(((rd_T65 l0 x5_1).f2.f1).size:Int) > 60
              · rw [if_pos c7] at H
                have c7b0:=decide_eq_true c7;have c7b1:decide (60 < ((rd_T65 l0 x5_1).f2.f1).size)=true:=decide_eq_true (by omega);clear c7;obtain rfl:=Option.some.inj H;have p628:0≤(x5_1:Int):=of_decide_eq_true My.as;have q628:x5_1 < (l0.length:Int):=of_decide_eq_true My.as;obtain⟨ad628,e628,hx628_0,hx628_1,hx628_2,hx628_3,hx628_4,hx628_5,hx628_6,hx628_7⟩:=at_T65 HR0.out x5_1 p628 q628;cases e628;replace p628:=eq_true p628;replace q628:=eq_true q628;have p629:0≤(x5_1:Int):=of_decide_eq_true My.as;have q629:x5_1 < (l0.length:Int):=of_decide_eq_true My.as;obtain⟨ad629,e629,hx629_0,hx629_1,hx629_2,hx629_3,hx629_4,hx629_5,hx629_6,hx629_7⟩:=at_T65 HR0.out x5_1 p629 q629;obtain rfl:ad628=ad629:=(by injection e629);replace p629:=eq_true p629;replace q629:=eq_true q629
                go_wp2
                go_ret
                exact⟨My.q0,My.dD⟩
              · rw [if_neg c7] at H
                have c7b0:=decide_eq_false c7;have c7b1:decide (60 < ((rd_T65 l0 x5_1).f2.f1).size)=false:=decide_eq_false (by omega);clear c7;have H':=Aside0.mk H;clear H;have p628:0≤(x5_1:Int):=of_decide_eq_true My.as;have q628:x5_1 < (l0.length:Int):=of_decide_eq_true My.as;obtain⟨ad628,e628,hx628_0,hx628_1,hx628_2,hx628_3,hx628_4,hx628_5,hx628_6,hx628_7⟩:=at_T65 HR0.out x5_1 p628 q628;cases e628;replace p628:=eq_true p628;replace q628:=eq_true q628;have p629:0≤(x5_1:Int):=of_decide_eq_true My.as;have q629:x5_1 < (l0.length:Int):=of_decide_eq_true My.as;obtain⟨ad629,e629,hx629_0,hx629_1,hx629_2,hx629_3,hx629_4,hx629_5,hx629_6,hx629_7⟩:=at_T65 HR0.out x5_1 p629 q629;obtain rfl:ad628=ad629:=(by injection e629);replace p629:=eq_true p629;replace q629:=eq_true q629
                go_wp2
                go_roundg k1
                case measure=> have:=HK1.out;omega
                case rel=> exact⟨(wrap64 (x5_1 + 1)),My.q0,H',⟨by have:=HK1.out;omega⟩,My.dD⟩
          · exact My.no c5 H
        · rw [if_neg c4] at H
          have c4b0:=decide_eq_false c4;clear c4;obtain rfl:=Option.some.inj H
          go_wp2
          go_ret
          exact⟨My.q0,My.dD⟩

/-! ### batonref16_Fail: function 33 -/
def batonref16_Fail.f (a0_0:Int) (a0_1:ByteArray) (a0_2:Int) (a0_3:ByteArray) (a0_4:ByteArray) (a0_5:Int) (a0_6:Int) (a0_7:Int) (a0_8:Int) (a0_9:Int) (a1:Int):Option (Int×ByteArray×Int×ByteArray×ByteArray×Int×Int×Int×Int×Int):=some (a0_0,a0_1,a0_2,a0_3,a0_4,a0_5,8,0,a0_8,a1)
set_option maxHeartbeats 80000000 in
set_option maxRecDepth 100000 in
theorem batonref16_Fail.calls (a0_0:Int) (a0_1:ByteArray) (a0_2:Int) (a0_3:ByteArray) (a0_4:ByteArray) (a0_5:Int) (a0_6:Int) (a0_7:Int) (a0_8:Int) (a0_9:Int) (a1:Int) (r1:Int) (r2:ByteArray) (r3:Int) (r4:ByteArray) (r5:ByteArray) (r6:Int) (r7:Int) (r8:Int) (r9:Int) (r10:Int) (w:World) (h:batonref16_Fail.f a0_0 a0_1 a0_2 a0_3 a0_4 a0_5 a0_6 a0_7 a0_8 a0_9 a1=some (r1,r2,r3,r4,r5,r6,r7,r8,r9,r10)):
    Calls Try.prog 33 #[.agg #[.int .i64 a0_0,.string a0_1,.int .i64 a0_2,.string a0_3,.string a0_4,.int .i64 a0_5,.int .i64 a0_6,.int .i64 a0_7,.int .i64 a0_8,.int .i64 a0_9],.int .i64 a1] w fun e w'=> e= .returned (.agg #[.int .i64 r1,.string r2,.int .i64 r3,.string r4,.string r5,.int .i64 r6,.int .i64 r7,.int .i64 r8,.int .i64 r9,.int .i64 r10])∧Below w.heap.size w w':=by
  have hu24:=Try.underlying24;have HB:=My.m (Below.refl w.heap.size w);have H:=h;clear h;unfold batonref16_Fail.f at H;simp only [Option.some.injEq,Prod.mk.injEq] at H;obtain⟨rfl,rfl,rfl,rfl,rfl,rfl,rfl,rfl,rfl,rfl⟩:=H
  go_enter Try.func33,Try.ntmps33
  go_wp2_with (first|((with_reducible refine gate_dst (N:=2) rfl ?_);refine My.be 2 24 #[.int .i64 a0_0,.string a0_1,.int .i64 a0_2,.string a0_3,.string a0_4,.int .i64 a0_5,.int .i64 a0_6,.int .i64 a0_7,.int .i64 a0_8,.int .i64 a0_9] ?_;intro gb630 hg w3 hbox hb;have BK630:=My.m hbox;have GW630:=My.m ((My.nw w hg My.bB));have GE630:=My.m ((My.nw w hg My.bB));replace HB:=My.m (below_step My.bB hb);clear hb hbox hg)|((with_reducible refine gate_dst (N:=4) rfl ?_);refine My.be 4 24 #[.int .i64 0,.string (⟨#[]⟩:ByteArray),.int .i64 0,.string (⟨#[]⟩:ByteArray),.string (⟨#[]⟩:ByteArray),.int .i64 0,.int .i64 0,.int .i64 0,.int .i64 0,.int .i64 0] ?_;intro gb631 hg w4 hbox hb;have BK631:=My.m hbox;have GW631:=My.m ((My.nw w hg My.bA));have GE631:=My.m ((My.nw w hg My.bA));replace HB:=My.m (below_step My.bA hb);have NB630_631:=My.m ((My.nl hg BK630));have NB631_630:=My.m ((My.nr hg BK630));replace BK630:=My.m (My.kb BK630.out hb);clear hb hbox hg;have hnb5:=NB630_631.out;have hnc5:=NB631_630.out;obtain⟨_,_,_,_,_,_,_,_,_,_⟩:=My.qc10 BK630.out;obtain⟨_,_,_,_,_,_,_,_,_,_⟩:=My.qf10 BK630.out)|((with_reducible refine gate_dst (N:=5) rfl ?_);refine My.be 5 24 #[.int .i64 0,.string (⟨#[]⟩:ByteArray),.int .i64 0,.string (⟨#[]⟩:ByteArray),.string (⟨#[]⟩:ByteArray),.int .i64 0,.int .i64 0,.int .i64 0,.int .i64 0,.int .i64 0] ?_;intro gb632 hg w7 hbox hb;have BK632:=My.m hbox;have GW632:=My.m ((My.nw w hg My.bA));have GE632:=My.m ((My.nw w hg My.bA));replace HB:=My.m (below_step My.bA hb);have NB630_632:=My.m ((My.nl hg BK630));have NB632_630:=My.m ((My.nr hg BK630));replace BK630:=My.m (My.kb BK630.out hb);have NB631_632:=My.m ((My.nl hg BK631));have NB632_631:=My.m ((My.nr hg BK631));replace BK631:=My.m (My.kb BK631.out hb);clear hb hbox hg;have hnb8:=NB632_630.out;have hnc8:=NB630_632.out;have hnb9:=NB632_631.out;have hnc9:=NB631_632.out;obtain⟨_,_,_,_,_,_,_,_,_,_⟩:=My.qc10 BK632.out;obtain⟨_,_,_,_,_,_,_,_,_,_⟩:=My.qf10 BK632.out;obtain⟨_,_,_,_,_,_,_,_,_,_⟩:=My.qc10 BK631.out;obtain⟨_,_,_,_,_,_,_,_,_,_⟩:=My.qf10 BK631.out))
  refine bodyPost_ret (results_cell_row rfl _ _ gb631 24 #[.int .i64 a0_0,.string a0_1,.int .i64 a0_2,.string a0_3,.string a0_4,.int .i64 a0_5,.int .i64 8,.int .i64 0,.int .i64 a0_8,.int .i64 a1] (0,0) _ rfl (by(with_reducible repeat(first|refine blk_drewN ?_ _|refine blk_drew ?_|refine blk_alloc ?_ _));refine blk_put (cs:= #[.int .i64 a0_0,.string a0_1,.int .i64 a0_2,.string a0_3,.string a0_4,.int .i64 a0_5,.int .i64 8,.int .i64 0,.int .i64 a0_8,.int .i64 0]) ?_ 9 _ rfl;(with_reducible repeat(first|refine blk_drewN ?_ _|refine blk_drew ?_|refine blk_alloc ?_ _));refine blk_put (cs:= #[.int .i64 a0_0,.string a0_1,.int .i64 a0_2,.string a0_3,.string a0_4,.int .i64 a0_5,.int .i64 8,.int .i64 0,.int .i64 0,.int .i64 0]) ?_ 8 _ rfl;(with_reducible repeat(first|refine blk_drewN ?_ _|refine blk_drew ?_|refine blk_alloc ?_ _));refine blk_put (cs:= #[.int .i64 a0_0,.string a0_1,.int .i64 a0_2,.string a0_3,.string a0_4,.int .i64 a0_5,.int .i64 8,.int .i64 0,.int .i64 0,.int .i64 0]) ?_ 7 _ rfl;(with_reducible repeat(first|refine blk_drewN ?_ _|refine blk_drew ?_|refine blk_alloc ?_ _));refine blk_put (cs:= #[.int .i64 a0_0,.string a0_1,.int .i64 a0_2,.string a0_3,.string a0_4,.int .i64 a0_5,.int .i64 0,.int .i64 0,.int .i64 0,.int .i64 0]) ?_ 6 _ rfl;(with_reducible repeat(first|refine blk_drewN ?_ _|refine blk_drew ?_|refine blk_alloc ?_ _));refine blk_put (cs:= #[.int .i64 a0_0,.string a0_1,.int .i64 a0_2,.string a0_3,.string a0_4,.int .i64 0,.int .i64 0,.int .i64 0,.int .i64 0,.int .i64 0]) ?_ 5 _ rfl;(with_reducible repeat(first|refine blk_drewN ?_ _|refine blk_drew ?_|refine blk_alloc ?_ _));refine blk_put (cs:= #[.int .i64 a0_0,.string a0_1,.int .i64 a0_2,.string a0_3,.string (⟨#[]⟩:ByteArray),.int .i64 0,.int .i64 0,.int .i64 0,.int .i64 0,.int .i64 0]) ?_ 4 _ rfl;(with_reducible repeat(first|refine blk_drewN ?_ _|refine blk_drew ?_|refine blk_alloc ?_ _));refine blk_put (cs:= #[.int .i64 a0_0,.string a0_1,.int .i64 a0_2,.string (⟨#[]⟩:ByteArray),.string (⟨#[]⟩:ByteArray),.int .i64 0,.int .i64 0,.int .i64 0,.int .i64 0,.int .i64 0]) ?_ 3 _ rfl;(with_reducible repeat(first|refine blk_drewN ?_ _|refine blk_drew ?_|refine blk_alloc ?_ _));refine blk_put (cs:= #[.int .i64 a0_0,.string a0_1,.int .i64 0,.string (⟨#[]⟩:ByteArray),.string (⟨#[]⟩:ByteArray),.int .i64 0,.int .i64 0,.int .i64 0,.int .i64 0,.int .i64 0]) ?_ 2 _ rfl;(with_reducible repeat(first|refine blk_drewN ?_ _|refine blk_drew ?_|refine blk_alloc ?_ _));refine blk_put (cs:= #[.int .i64 a0_0,.string (⟨#[]⟩:ByteArray),.int .i64 0,.string (⟨#[]⟩:ByteArray),.string (⟨#[]⟩:ByteArray),.int .i64 0,.int .i64 0,.int .i64 0,.int .i64 0,.int .i64 0]) ?_ 1 _ rfl;(with_reducible repeat(first|refine blk_drewN ?_ _|refine blk_drew ?_|refine blk_alloc ?_ _));refine blk_put (cs:= #[.int .i64 0,.string (⟨#[]⟩:ByteArray),.int .i64 0,.string (⟨#[]⟩:ByteArray),.string (⟨#[]⟩:ByteArray),.int .i64 0,.int .i64 0,.int .i64 0,.int .i64 0,.int .i64 0]) ?_ 0 _ rfl;(with_reducible repeat(first|refine blk_drewN ?_ _|refine blk_drew ?_|refine blk_alloc ?_ _));refine blk_far ?_ NB631_632.out _;(with_reducible repeat(first|refine blk_drewN ?_ _|refine blk_drew ?_|refine blk_alloc ?_ _));refine blk_far ?_ NB631_632.out _;(with_reducible repeat(first|refine blk_drewN ?_ _|refine blk_drew ?_|refine blk_alloc ?_ _));refine blk_far ?_ NB631_632.out _;(with_reducible repeat(first|refine blk_drewN ?_ _|refine blk_drew ?_|refine blk_alloc ?_ _));refine blk_far ?_ NB631_632.out _;(with_reducible repeat(first|refine blk_drewN ?_ _|refine blk_drew ?_|refine blk_alloc ?_ _));refine blk_far ?_ NB631_632.out _;(with_reducible repeat(first|refine blk_drewN ?_ _|refine blk_drew ?_|refine blk_alloc ?_ _));refine blk_far ?_ NB631_632.out _;(with_reducible repeat(first|refine blk_drewN ?_ _|refine blk_drew ?_|refine blk_alloc ?_ _));refine blk_far ?_ NB631_632.out _;(with_reducible repeat(first|refine blk_drewN ?_ _|refine blk_drew ?_|refine blk_alloc ?_ _));refine blk_far ?_ NB631_632.out _;(with_reducible repeat(first|refine blk_drewN ?_ _|refine blk_drew ?_|refine blk_alloc ?_ _));refine blk_far ?_ NB631_632.out _;(with_reducible repeat(first|refine blk_drewN ?_ _|refine blk_drew ?_|refine blk_alloc ?_ _));refine blk_far ?_ NB631_632.out _;(with_reducible repeat(first|refine blk_drewN ?_ _|refine blk_drew ?_|refine blk_alloc ?_ _));refine blk_far ?_ NB631_632.out _;(with_reducible repeat(first|refine blk_drewN ?_ _|refine blk_drew ?_|refine blk_alloc ?_ _));refine blk_far ?_ NB631_632.out _;(with_reducible repeat(first|refine blk_drewN ?_ _|refine blk_drew ?_|refine blk_alloc ?_ _));refine blk_far ?_ NB631_632.out _;(with_reducible repeat(first|refine blk_drewN ?_ _|refine blk_drew ?_|refine blk_alloc ?_ _));exact BK631.out) Try.underlying24 rfl (by kernel_rfl)) rfl ?_;exact⟨My.q1,My.bA⟩

/-! ### batonref15_before: function 48 -/
def batonref15_before.f (a0_0:ByteArray) (a0_1:ByteArray) (a0_2:Int) (a0_3:Int) (a0_4:Int) (a0_5:Int) (a1_0:ByteArray) (a1_1:ByteArray) (a1_2:Int) (a1_3:Int) (a1_4:Int) (a1_5:Int):Option (Bool):=if a0_2 < a1_2 then (some true) else (if a0_2=a1_2 then (some (Op.bytesLess a0_0.toList a1_0.toList)) else (some false))
set_option maxHeartbeats 80000000 in
set_option maxRecDepth 100000 in
theorem batonref15_before.calls (a0_0:ByteArray) (a0_1:ByteArray) (a0_2:Int) (a0_3:Int) (a0_4:Int) (a0_5:Int) (a1_0:ByteArray) (a1_1:ByteArray) (a1_2:Int) (a1_3:Int) (a1_4:Int) (a1_5:Int) (r:Bool) (w:World) (h:batonref15_before.f a0_0 a0_1 a0_2 a0_3 a0_4 a0_5 a1_0 a1_1 a1_2 a1_3 a1_4 a1_5=some r):
    Calls Try.prog 48 #[.agg #[.string a0_0,.string a0_1,.int .i64 a0_2,.int .i64 a0_3,.int .i64 a0_4,.int .i64 a0_5],.agg #[.string a1_0,.string a1_1,.int .i64 a1_2,.int .i64 a1_3,.int .i64 a1_4,.int .i64 a1_5]] w fun e w'=> e= .returned (.bool r)∧Below w.heap.size w w':=by
  have hu49:=Try.underlying49;have HB:=My.m (Below.refl w.heap.size w);have H:(if a0_2 < a1_2 then (some true) else (if a0_2=a1_2 then (some (Op.bytesLess a0_0.toList a1_0.toList)) else (some false)))=some r:=h;clear h
  by_cases c3:a0_2 < a1_2
  · rw [if_pos c3] at H
    have c3b0:=decide_eq_true c3;clear c3;obtain rfl:=Option.some.inj H
    go_enter Try.func48,Try.ntmps48
    go_wp2_with (first|((with_reducible refine gate_dst (N:=2) rfl ?_);refine My.be 2 49 #[.string a0_0,.string a0_1,.int .i64 a0_2,.int .i64 a0_3,.int .i64 a0_4,.int .i64 a0_5] ?_;intro gb633 hg w4 hbox hb;have BK633:=My.m hbox;have GW633:=My.m ((My.nw w hg My.bB));have GE633:=My.m ((My.nw w hg My.bB));replace HB:=My.m (below_step My.bB hb);clear hb hbox hg)|((with_reducible refine gate_dst (N:=3) rfl ?_);refine My.be 3 49 #[.string a1_0,.string a1_1,.int .i64 a1_2,.int .i64 a1_3,.int .i64 a1_4,.int .i64 a1_5] ?_;intro gb634 hg w5 hbox hb;have BK634:=My.m hbox;have GW634:=My.m ((My.nw w hg My.bA));have GE634:=My.m ((My.nw w hg My.bA));replace HB:=My.m (below_step My.bA hb);have NB633_634:=My.m ((My.nl hg BK633));have NB634_633:=My.m ((My.nr hg BK633));replace BK633:=My.m (My.kb BK633.out hb);clear hb hbox hg;have hnb6:=NB633_634.out;have hnc6:=NB634_633.out;obtain⟨_,_,_,_,_,_⟩:=My.qc6 BK633.out;obtain⟨_,_,_,_,_,_⟩:=My.qf6 BK633.out;obtain⟨_,_,_,_,_,_⟩:=My.qc6 BK634.out;obtain⟨_,_,_,_,_,_⟩:=My.qf6 BK634.out))
    go_ret
    exact⟨My.q1,My.bA⟩
  · rw [if_neg c3] at H
    have c3b0:=decide_eq_false c3;clear c3
    by_cases c9:a0_2=a1_2
    · rw [if_pos c9] at H
      have c9b0:(a0_2 == a1_2)=true:=beq_iff_eq.mpr c9;have c9b1:(a0_2 != a1_2)=false:=bne_eq_false_iff_eq.mpr c9;clear c9;obtain rfl:=Option.some.inj H
      go_enter Try.func48,Try.ntmps48
      go_wp2_with (first|((with_reducible refine gate_dst (N:=2) rfl ?_);refine My.be 2 49 #[.string a0_0,.string a0_1,.int .i64 a0_2,.int .i64 a0_3,.int .i64 a0_4,.int .i64 a0_5] ?_;intro gb633 hg w10 hbox hb;have BK633:=My.m hbox;have GW633:=My.m ((My.nw w hg My.bB));have GE633:=My.m ((My.nw w hg My.bB));replace HB:=My.m (below_step My.bB hb);clear hb hbox hg)|((with_reducible refine gate_dst (N:=3) rfl ?_);refine My.be 3 49 #[.string a1_0,.string a1_1,.int .i64 a1_2,.int .i64 a1_3,.int .i64 a1_4,.int .i64 a1_5] ?_;intro gb634 hg w11 hbox hb;have BK634:=My.m hbox;have GW634:=My.m ((My.nw w hg My.bA));have GE634:=My.m ((My.nw w hg My.bA));replace HB:=My.m (below_step My.bA hb);have NB633_634:=My.m ((My.nl hg BK633));have NB634_633:=My.m ((My.nr hg BK633));replace BK633:=My.m (My.kb BK633.out hb);clear hb hbox hg;have hnb12:=NB633_634.out;have hnc12:=NB634_633.out;obtain⟨_,_,_,_,_,_⟩:=My.qc6 BK633.out;obtain⟨_,_,_,_,_,_⟩:=My.qf6 BK633.out;obtain⟨_,_,_,_,_,_⟩:=My.qc6 BK634.out;obtain⟨_,_,_,_,_,_⟩:=My.qf6 BK634.out))
      go_ret
      exact⟨My.q1,My.bA⟩
    · rw [if_neg c9] at H
      have c9b0:(a0_2 == a1_2)=false:=beq_eq_false_iff_ne.mpr c9;have c9b1:(a0_2 != a1_2)=true:=bne_iff_ne.mpr c9;obtain rfl:=Option.some.inj H
      go_enter Try.func48,Try.ntmps48
      go_wp2_with (first|((with_reducible refine gate_dst (N:=2) rfl ?_);refine My.be 2 49 #[.string a0_0,.string a0_1,.int .i64 a0_2,.int .i64 a0_3,.int .i64 a0_4,.int .i64 a0_5] ?_;intro gb633 hg w15 hbox hb;have BK633:=My.m hbox;have GW633:=My.m ((My.nw w hg My.bB));have GE633:=My.m ((My.nw w hg My.bB));replace HB:=My.m (below_step My.bB hb);clear hb hbox hg)|((with_reducible refine gate_dst (N:=3) rfl ?_);refine My.be 3 49 #[.string a1_0,.string a1_1,.int .i64 a1_2,.int .i64 a1_3,.int .i64 a1_4,.int .i64 a1_5] ?_;intro gb634 hg w16 hbox hb;have BK634:=My.m hbox;have GW634:=My.m ((My.nw w hg My.bA));have GE634:=My.m ((My.nw w hg My.bA));replace HB:=My.m (below_step My.bA hb);have NB633_634:=My.m ((My.nl hg BK633));have NB634_633:=My.m ((My.nr hg BK633));replace BK633:=My.m (My.kb BK633.out hb);clear hb hbox hg;have hnb17:=NB633_634.out;have hnc17:=NB634_633.out;obtain⟨_,_,_,_,_,_⟩:=My.qc6 BK633.out;obtain⟨_,_,_,_,_,_⟩:=My.qf6 BK633.out;obtain⟨_,_,_,_,_,_⟩:=My.qc6 BK634.out;obtain⟨_,_,_,_,_,_⟩:=My.qf6 BK634.out))
      go_ret
      exact⟨My.q1,My.bA⟩

/-! ### batonref15_Order: function 34 -/
mutual
def batonref15_Order.l0:Nat→List (S49)→List (S49)→Int→Option ((List (S49)))
 |0,_,_,_=> none
 |k + 1,x0,x3,x4=> if x4 < (x0.length:Int) then (batonref15_Order.l1 k x0 x3 x4 0) else (some x3)
def batonref15_Order.l1:Nat→List (S49)→List (S49)→Int→Int→Option ((List (S49)))
 |0,_,_,_,_=> none
 |k + 1,x0,x3,x4,x5=> if x5 < (x3.length:Int) then (if 0≤x4 then (if x4 < (x0.length:Int) then (if 0≤x5 then ((batonref15_before.f ((rd_T49 x0 x4).f0) ((rd_T49 x0 x4).f1) ((rd_T49 x0 x4).f2) ((rd_T49 x0 x4).f3) ((rd_T49 x0 x4).f4) ((rd_T49 x0 x4).f5) ((rd_T49 x3 x5).f0) ((rd_T49 x3 x5).f1) ((rd_T49 x3 x5).f2) ((rd_T49 x3 x5).f3) ((rd_T49 x3 x5).f4) ((rd_T49 x3 x5).f5)).bind fun t637=> (if t637=true then ((some (([]:List (S49)):List (S49))).bind fun y638=> (if x5≤(x3.length:Int) then ((some (x3.take (x5:Int).toNat:List (S49))).bind fun y641=> (if y638.length + y641.length < 2199023255552 then ((some (y638 ++ y641:List (S49))).bind fun y645=> (if y645.length < 2199023255552 then ((some (y645 ++ [(⟨(rd_T49 x0 x4).f0,(rd_T49 x0 x4).f1,(rd_T49 x0 x4).f2,(rd_T49 x0 x4).f3,(rd_T49 x0 x4).f4,(rd_T49 x0 x4).f5⟩:S49)]:List (S49))).bind fun y649=> ((some (x3.drop (x5:Int).toNat:List (S49))).bind fun y652=> (if y649.length + y652.length < 2199023255552 then (batonref15_Order.l0 k x0 (y649 ++ y652) (wrap64 (x4 + 1))) else (none)))) else (none))) else (none))) else (none))) else (batonref15_Order.l1 k x0 x3 x4 (wrap64 (x5 + 1))))) else (none)) else (none)) else (none)) else ((some (([]:List (S49)):List (S49))).bind fun y659=> (if 0≤x5 then (if x5≤(x3.length:Int) then ((some (x3.take (x5:Int).toNat:List (S49))).bind fun y662=> (if y659.length + y662.length < 2199023255552 then ((some (y659 ++ y662:List (S49))).bind fun y666=> (if 0≤x4 then (if x4 < (x0.length:Int) then (if y666.length < 2199023255552 then ((some (y666 ++ [(⟨(rd_T49 x0 x4).f0,(rd_T49 x0 x4).f1,(rd_T49 x0 x4).f2,(rd_T49 x0 x4).f3,(rd_T49 x0 x4).f4,(rd_T49 x0 x4).f5⟩:S49)]:List (S49))).bind fun y670=> ((some (x3.drop (x5:Int).toNat:List (S49))).bind fun y673=> (if y670.length + y673.length < 2199023255552 then (batonref15_Order.l0 k x0 (y670 ++ y673) (wrap64 (x4 + 1))) else (none)))) else (none)) else (none)) else (none))) else (none))) else (none)) else (none)))
end
def batonref15_Order.f (k:Nat) (l0:List (S49)):Option ((List (S49))):=batonref15_Order.l0 k l0 ([]:List (S49)) 0
theorem batonref15_Order.mono_l:∀k,(∀y0 y1 y2,LeO (batonref15_Order.l0 k y0 y1 y2) (batonref15_Order.l0 (k + 1) y0 y1 y2))∧(∀y0 y1 y2 y3,LeO (batonref15_Order.l1 k y0 y1 y2 y3) (batonref15_Order.l1 (k + 1) y0 y1 y2 y3))
 |0=> ⟨fun _ _ _ r h=> by simp [batonref15_Order.l0] at h,fun _ _ _ _ r h=> by simp [batonref15_Order.l1] at h⟩
 |k + 1=> by
  obtain⟨ih0,ih1⟩:=batonref15_Order.mono_l k
  refine⟨?_,?_⟩
  ·intro y0 y1 y2
   unfold batonref15_Order.l0
   exact My.mono_
  ·intro y0 y1 y2 y3
   unfold batonref15_Order.l1
   exact My.mono_
theorem batonref15_Order.mono:∀a0 k,LeO (batonref15_Order.f k a0) (batonref15_Order.f (k + 1) a0):=by
 intro a0 k
 obtain⟨ih0,ih1⟩:=batonref15_Order.mono_l k
 unfold batonref15_Order.f
 exact My.mono_
def batonref15_Order.T6:Bool×List (List Nat×List Nat):=(true,[([],[]),([],[]),([1],[1]),([0,2],[0,2]),([3],[3]),([4],[4]),([4],[4]),([5,6,4],[4,5,6]),([7,4],[4,7]),([4],[4]),([4],[4]),([9,10,4],[4,9,10]),([11,4],[4,11]),([8,12,4,4],[4,8,12]),([13,4],[4,13]),([4,14],[4,14])])
def batonref15_Order.B6:List Nat:= [0,0,2,7,15,31,31,127,255,31,31,1567,3615,8191,16383,32767]
theorem batonref15_Order.tab6:rtab .any (opsOf Try.f34 6)=batonref15_Order.T6:=by kernel_rfl
theorem batonref15_Order.bits6:waitsOk batonref15_Order.T6.2 batonref15_Order.B6=true:=by kernel_rfl
set_option maxHeartbeats 80000000 in
set_option maxRecDepth 100000 in
theorem batonref15_Order.calls (k:Nat) (A0:Option Addr) (c0:Nat) (l0:List (S49)) (r:List (S49)) (w:World) (hr0:Kd.C k49 w A0 l0.length l0) (hc0:l0.length≤c0) (h:batonref15_Order.f k l0=some r):
  Calls Try.prog 34 #[.slice A0 l0.length c0] w fun e w'=> ∃v0_:Value,e= .returned (v0_)∧Kd.R k49 49 w' w.heap.size (fun _=> True) v0_ r∧Below w.heap.size w w':=by
 have hu49:=Try.underlying49;have HR0:=Aside0.mk hr0;have HC0:=Aside0.mk hc0;clear hr0 hc0;have HB:=My.m (Below.refl w.heap.size w);have H:=h;clear h;unfold batonref15_Order.f at H;have H':=Aside0.mk H;clear H
 go_enter Try.func34,Try.ntmps34
 go_wp2
 go_loopg [3,4] k (fun kq v3 v4 w'=> ∃(x3_1:List (S49)) (x4_1:Int),v4= .int .i64 x4_1∧Aside0 (batonref15_Order.l0 kq l0 x3_1 x4_1=some r)∧Aside0 (kq≤k)∧Aside0 (Kd.R k49 49 w' w.heap.size (fun _=> True) v3 x3_1)∧Aside0 (Below w.heap.size w w'))
 case atStart=> exact⟨(([]:List (S49))),(0),My.q0,H',⟨Nat.le_refl _⟩,⟨by first|exact Kd.R_nil _ _ _ _ _|exact Kd.N_nil _ _ _ _ _|exact Kd.V_nil _ _ _ _ _|exact Kd.Q_nil _ _ _ _ _|exact Kd.S_nil _ _ _ _ _⟩,⟨My.bB⟩⟩
 case round=>
  clear H';obtain⟨x3_1,x4_1,rfl,HA,HK1,HO_3,HB⟩:=hrel
  cases gk with
  |zero=> exact absurd HA.out (by simp [batonref15_Order.l0])
  |succ k1=>
   have H:=HA.out;clear HA;simp only [batonref15_Order.l0] at H
   by_cases c2:x4_1 < (l0.length:Int)
   ·rw [if_pos c2] at H
    have c2b0:=decide_eq_true c2;clear c2;have H':=Aside0.mk H;clear H
    go_wp2
    go_loopg [5] k1 (fun kq v5 w'=> ∃(x5_2:Int),v5= .int .i64 x5_2∧Aside0 (batonref15_Order.l1 kq l0 x3_1 x4_1 x5_2=some r)∧Aside0 (kq≤k1)∧Aside0 (Kd.R k49 49 w' w.heap.size (fun _=> True) u3 x3_1)∧Aside0 (Below w.heap.size w w'))
    case atStart=> exact⟨(0),My.q0,H',⟨Nat.le_refl _⟩,⟨My.Ra HO_3.out⟩,⟨My.bB⟩⟩
    case round=>
     clear H';(repeat first|clear c2|clear c2b0|clear p2);obtain⟨x5_2,rfl,HA,HK2,HO_3,HB⟩:=hrel
     cases gk with
     |zero=> exact absurd HA.out (by simp [batonref15_Order.l1])
     |succ k2=>
      have H:=HA.out;clear HA;simp only [batonref15_Order.l1] at H
      by_cases c3:x5_2 < (x3_1.length:Int)
      ·rw [if_pos c3] at H
       have c3b0:=decide_eq_true c3;clear c3
       by_cases c4:0≤x4_1
       ·rw [if_pos c4] at H
        have c4b0:=decide_eq_true c4;clear c4
        by_cases c5:x4_1 < (l0.length:Int)
        ·rw [if_pos c5] at H
         have c5b0:=decide_eq_true c5;clear c5
         by_cases c6:0≤x5_2
         ·rw [if_pos c6] at H
          have c6b0:=decide_eq_true c6;clear c6;replace H:=Option.bind_eq_some_iff.mp H;obtain⟨t637,A70,H⟩:=H;have A7:=Aside0.mk A70;clear A70
          by_cases c8:t637=true
          ·subst c8
           rw [if_pos rfl] at H;obtain⟨y638,hy_⟩:∃y_:List (S49),y_=(([]:List (S49))):=⟨_,rfl⟩;replace H:(if x5_2≤(x3_1.length:Int) then ((some (x3_1.take (x5_2:Int).toNat:List (S49))).bind fun y641=> (if y638.length + y641.length < 2199023255552 then ((some (y638 ++ y641:List (S49))).bind fun y645=> (if y645.length < 2199023255552 then ((some (y645 ++ [(⟨(rd_T49 l0 x4_1).f0,(rd_T49 l0 x4_1).f1,(rd_T49 l0 x4_1).f2,(rd_T49 l0 x4_1).f3,(rd_T49 l0 x4_1).f4,(rd_T49 l0 x4_1).f5⟩:S49)]:List (S49))).bind fun y649=> ((some (x3_1.drop (x5_2:Int).toNat:List (S49))).bind fun y652=> (if y649.length + y652.length < 2199023255552 then (batonref15_Order.l0 k2 l0 (y649 ++ y652) (wrap64 (x4_1 + 1))) else (none)))) else (none))) else (none))) else (none))=some r:=My.hr;have Ny638:=Aside0.mk hy_;clear hy_;have c9b0:=eq_true (of_decide_eq_true My.as:0≤x5_2)
           by_cases c10:x5_2≤(x3_1.length:Int)
           ·rw [if_pos c10] at H
            have c10b0:=eq_true c10;have c10b1:decide (x5_2≤(x3_1.length:Int))=true:=decide_eq_true c10;clear c10;obtain⟨y641,hy_⟩:∃y_:List (S49),y_=(x3_1.take (x5_2:Int).toNat):=⟨_,rfl⟩;replace H:(if y638.length + y641.length < 2199023255552 then ((some (y638 ++ y641:List (S49))).bind fun y645=> (if y645.length < 2199023255552 then ((some (y645 ++ [(⟨(rd_T49 l0 x4_1).f0,(rd_T49 l0 x4_1).f1,(rd_T49 l0 x4_1).f2,(rd_T49 l0 x4_1).f3,(rd_T49 l0 x4_1).f4,(rd_T49 l0 x4_1).f5⟩:S49)]:List (S49))).bind fun y649=> ((some (x3_1.drop (x5_2:Int).toNat:List (S49))).bind fun y652=> (if y649.length + y652.length < 2199023255552 then (batonref15_Order.l0 k2 l0 (y649 ++ y652) (wrap64 (x4_1 + 1))) else (none)))) else (none))) else (none))=some r:=My.hr;have Ny641:=Aside0.mk hy_;clear hy_
            by_cases c11:y638.length + y641.length < 2199023255552
            ·rw [if_pos c11] at H
             have LMc11:=Aside0.mk c11;clear c11;obtain⟨y645,hy_⟩:∃y_:List (S49),y_=(y638 ++ y641):=⟨_,rfl⟩;replace H:(if y645.length < 2199023255552 then ((some (y645 ++ [(⟨(rd_T49 l0 x4_1).f0,(rd_T49 l0 x4_1).f1,(rd_T49 l0 x4_1).f2,(rd_T49 l0 x4_1).f3,(rd_T49 l0 x4_1).f4,(rd_T49 l0 x4_1).f5⟩:S49)]:List (S49))).bind fun y649=> ((some (x3_1.drop (x5_2:Int).toNat:List (S49))).bind fun y652=> (if y649.length + y652.length < 2199023255552 then (batonref15_Order.l0 k2 l0 (y649 ++ y652) (wrap64 (x4_1 + 1))) else (none)))) else (none))=some r:=My.hr;have Ny645:=Aside0.mk hy_;clear hy_
             by_cases c12:y645.length < 2199023255552
             ·rw [if_pos c12] at H
              have LMc12:=Aside0.mk c12;clear c12;obtain⟨y649,hy_⟩:∃y_:List (S49),y_=(y645 ++ [(⟨(rd_T49 l0 x4_1).f0,(rd_T49 l0 x4_1).f1,(rd_T49 l0 x4_1).f2,(rd_T49 l0 x4_1).f3,(rd_T49 l0 x4_1).f4,(rd_T49 l0 x4_1).f5⟩:S49)]):=⟨_,rfl⟩;replace H:((some (x3_1.drop (x5_2:Int).toNat:List (S49))).bind fun y652=> (if y649.length + y652.length < 2199023255552 then (batonref15_Order.l0 k2 l0 (y649 ++ y652) (wrap64 (x4_1 + 1))) else (none)))=some r:=My.hr;have Ny649:=Aside0.mk hy_;clear hy_;have c13b0:=eq_true (of_decide_eq_true My.as:0≤x5_2);have c14b0:=eq_true (of_decide_eq_true My.as:x5_2≤(x3_1.length:Int));obtain⟨y652,hy_⟩:∃y_:List (S49),y_=(x3_1.drop (x5_2:Int).toNat):=⟨_,rfl⟩;replace H:(if y649.length + y652.length < 2199023255552 then (batonref15_Order.l0 k2 l0 (y649 ++ y652) (wrap64 (x4_1 + 1))) else (none))=some r:=My.hr;have Ny652:=Aside0.mk hy_;clear hy_
              by_cases c15:y649.length + y652.length < 2199023255552
              ·rw [if_pos c15] at H
               have LMc15:=Aside0.mk c15;clear c15;obtain⟨y656,hy_⟩:∃y_:List (S49),y_=(y649 ++ y652):=⟨_,rfl⟩;replace H:(batonref15_Order.l0 k2 l0 y656 (wrap64 (x4_1 + 1)))=some r:=My.hr;have Ny656:=Aside0.mk hy_;clear hy_;have H':=Aside0.mk H;clear H;(try go_wp2);replace HO_3:=My.m (Kd.R_drew HO_3.out);replace HB:=My.m (below_drew1 HB.out);obtain⟨Ao17,co17,eo17⟩:=Kd.R_slice HO_3.out;(first|subst eo17|(injection eo17 with f1_ f2_ f3_;have f4_:=f1_.symm;have f5_:=f3_.symm;clear f1_ f2_ f3_;subst f4_;subst f5_));have p635:0≤(x4_1:Int):=of_decide_eq_true My.as;have q635:x4_1 < (l0.length:Int):=of_decide_eq_true My.as;obtain⟨ad635,e635,hx635_0,hx635_1,hx635_2,hx635_3,hx635_4,hx635_5⟩:=at_T49 HR0.out x4_1 p635 q635;have hw635_5:=hx635_5;have hw635_4:=hx635_4;have hw635_3:=hx635_3;have hw635_2:=hx635_2;have hw635_1:=hx635_1;have hw635_0:=hx635_0;cases e635;replace hx635_0:=My.up HB.out hx635_0;replace hx635_1:=My.up HB.out hx635_1;replace hx635_2:=My.up HB.out hx635_2;replace hx635_3:=My.up HB.out hx635_3;replace hx635_4:=My.up HB.out hx635_4;replace hx635_5:=My.up HB.out hx635_5;replace p635:=eq_true p635;replace q635:=eq_true q635;have p636:0≤(x5_2:Int):=of_decide_eq_true My.as;have q636:x5_2 < (x3_1.length:Int):=of_decide_eq_true My.as;obtain⟨ad636,e636,hx636_0,hx636_1,hx636_2,hx636_3,hx636_4,hx636_5⟩:=at_T49 (Kd.R_reads' HO_3.out).2.2 x5_2 p636 q636;cases e636;replace p636:=eq_true p636;replace q636:=eq_true q636;refine start_ (n:=16) (S:=fun w'=> cT49 w' (ad635.add ((x4_1).toNat * 6)) (rd_T49 l0 x4_1) (eT49 w' (ad636.add ((x5_2).toNat * 6)) (rd_T49 x3_1 x5_2))) (ds:= []) (My.bl 16 0) (by kernel_rfl) rfl (by kernel_rfl) ⟨(My.uq HB.out hw635_0),(My.uq HB.out hw635_1),(My.uq HB.out hw635_2),(My.uq HB.out hw635_3),(My.uq HB.out hw635_4),(My.uq HB.out hw635_5),hx636_0,hx636_1,hx636_2,hx636_3,hx636_4,hx636_5⟩ (fun hHeld=> ?_);refine with_tabW batonref15_Order.tab6 batonref15_Order.bits6 (fun HT_ HW_=> ?_);generalize wr.drew=w16 at HO_3 HB hx635_0 hx635_1 hx635_2 hx635_3 hx635_4 hx635_5 hx636_0 hx636_1 hx636_2 hx636_3 hx636_4 hx636_5 hHeld⊢;refine My.pu 0 13 1 HT_ ?_;refine My.pu 1 14 3 HT_ ?_;refine My.pu 2 15 7 HT_ ?_;refine My.pu 3 16 15 HT_ ?_;refine My.pu 4 17 31 HT_ ?_;refine My.pu 5 18 63 HT_ ?_;refine My.pu 6 19 127 HT_ ?_;refine My.pu 7 20 255 HT_ ?_;refine My.pu 9 22 767 HT_ ?_;refine My.pu 10 23 1791 HT_ ?_;refine My.pu 11 24 3839 HT_ ?_;refine My.tk 8 21 4095 HT_ HW_ hHeld ?_;refine My.tk 12 25 8191 HT_ HW_ hHeld ?_;refine one_ (i:=13) (N:=some 26) (My.bl 16 16383) rfl rfl (one_of HT_.out (by kernel_rfl)) (by decide) (fun K hK=> ?_);refine goes_ Try.func48 (by kernel_rfl) rfl #[.agg #[.string ((rd_T49 l0 x4_1).f0),.string ((rd_T49 l0 x4_1).f1),.int .i64 ((rd_T49 l0 x4_1).f2),.int .i64 ((rd_T49 l0 x4_1).f3),.int .i64 ((rd_T49 l0 x4_1).f4),.int .i64 ((rd_T49 l0 x4_1).f5)],.agg #[.string ((rd_T49 x3_1 x5_2).f0),.string ((rd_T49 x3_1 x5_2).f1),.int .i64 ((rd_T49 x3_1 x5_2).f2),.int .i64 ((rd_T49 x3_1 x5_2).f3),.int .i64 ((rd_T49 x3_1 x5_2).f4),.int .i64 ((rd_T49 x3_1 x5_2).f5)]] (by rfl) rfl rfl My.ar ?_;(with_reducible refine(batonref15_before.calls ((rd_T49 l0 x4_1).f0) ((rd_T49 l0 x4_1).f1) ((rd_T49 l0 x4_1).f2) ((rd_T49 l0 x4_1).f3) ((rd_T49 l0 x4_1).f4) ((rd_T49 l0 x4_1).f5) ((rd_T49 x3_1 x5_2).f0) ((rd_T49 x3_1 x5_2).f1) ((rd_T49 x3_1 x5_2).f2) ((rd_T49 x3_1 x5_2).f3) ((rd_T49 x3_1 x5_2).f4) ((rd_T49 x3_1 x5_2).f5) true _ A7.out).mono ?_);rintro e w18 ⟨rfl,hb⟩;have HS6_:=(hb.cell (World.block_lt_of_cell? _ _ (hHeld.2.2.2.2.2.2.1))).trans (hHeld.2.2.2.2.2.2.1);have HS7_:=(hb.cell (World.block_lt_of_cell? _ _ (hHeld.2.2.2.2.2.2.2.1))).trans (hHeld.2.2.2.2.2.2.2.1);have HS8_:=(hb.cell (World.block_lt_of_cell? _ _ (hHeld.2.2.2.2.2.2.2.2.1))).trans (hHeld.2.2.2.2.2.2.2.2.1);have HS9_:=(hb.cell (World.block_lt_of_cell? _ _ (hHeld.2.2.2.2.2.2.2.2.2.1))).trans (hHeld.2.2.2.2.2.2.2.2.2.1);have HS10_:=(hb.cell (World.block_lt_of_cell? _ _ (hHeld.2.2.2.2.2.2.2.2.2.2.1))).trans (hHeld.2.2.2.2.2.2.2.2.2.2.1);have HS11_:=(hb.cell (World.block_lt_of_cell? _ _ (hHeld.2.2.2.2.2.2.2.2.2.2.2))).trans (hHeld.2.2.2.2.2.2.2.2.2.2.2);refine⟨_,rfl,?_⟩;replace HO_3:=My.m (Kd.R_below (My.Ra HO_3.out) hb);replace HB:=My.m (below_step My.bB hb);refine hK.out _ _ ⟨(My.uq HB.out hw635_0),(My.uq HB.out hw635_1),(My.uq HB.out hw635_2),(My.uq HB.out hw635_3),(My.uq HB.out hw635_4),(My.uq HB.out hw635_5),HS6_,HS7_,HS8_,HS9_,HS10_,HS11_⟩ (fun hHeld=> ?_);clear hK K;refine norm_ (a':= ?_) ?_ ?_;rotate_left
               ·show Act.put _ (some 26) _=_
                simp only [Act.put,List.setIfInBounds_toArray,List.set_cons_zero,List.set_cons_succ,i64_w,i32_w];rfl
               refine My.pu 14 27 32767 HT_ ?_;refine My.pu 15 28 65535 HT_ ?_;refine done_ (done_of HT_.out (by kernel_rfl)) ?_;(try go_wp2_with (first|((with_reducible refine gate_dst (N:=31) rfl ?_);refine Kd.R_lit k49 _ 49 ?hg (N:=31) ?hd (xs:=([]:List (S49))) (inner:= []) (ok:=fun _=> True) (okp:=fun _=> True) ?hr ?hp (fun _ hk=> hk) trivial (Below.refl _ _) (Nat.le_refl _) (by simp) ?_;(case hd=> rfl);(case hg=> rfl);(case hr=> first|(go_simp;done)|(go_simp;rfl));(case hp=> exact(Reps.none _ _));intro v639 w19 ho20 hb hg_ hnew_;clear hg_ hnew_;(first|rw [←Ny638.out] at ho20|(simp only [Int.reduceToNat] at ho20;rw [←Ny638.out] at ho20));have HO640:=My.m (Kd.R_lower (Kd.R_new' ho20 (Kd.R_lt (My.Ra HO_3.out))) (below_size My.bB));replace HO_3:=My.m (Kd.R_elder' (My.Ra HO_3.out) (Kd.R_base ho20) hb);replace HB:=My.m (below_step My.bB hb);clear hb ho20;have q21:(x5_2:Int)≤((x3_1.length:Int):Int):=of_decide_eq_true My.as;obtain⟨i021,hi021,_,hsz21,_⟩:=info_parts info49;have hroom21:x3_1.length≤co17:=(Kd.R_reads' HO_3.out).2.1;have hC21:Kd.C k49 _ (some ad636) x3_1.length x3_1:=(Kd.R_reads' HO_3.out).2.2;have hcut21:=cut_to (P:=Try.prog) 40 49 .i64 Try.underlying40 hi021 (some ad636) x3_1.length co17 x5_2 (of_decide_eq_true My.as) q21 hroom21;have hr21:=Kd.C_take (m:=(x5_2:Int).toNat) hC21 (by omega);have hy21:y641.length=(x5_2:Int).toNat:=(by rw [Ny641.out,List.length_take];omega);rw [←Ny641.out] at hr21;rw [←hy21] at hcut21;have HR644:=Aside0.mk hr21;have HC644:=My.m (show y641.length≤co17 from by omega);clear hr21 hC21 hroom21 hi021 hsz21;have KY21:=Aside0.mk hy21;clear hy21;have KL21:=My.m (show(x5_2:Int).toNat≤x3_1.length from by omega);replace q21:=eq_true q21)|((with_reducible refine gate_builtin (b:= .append) (xs:= #[.tmp 31,.tmp 34]) rfl ?_);at_builtin;refine Kd.R_append_rows k49 (w0:=w) w.heap.size rfl (.tmp 31) (.tmp 34) 40 49 (.agg #[(.string ⟨#[]⟩),(.string ⟨#[]⟩),(.int .i64 0),(.int .i64 0),(.int .i64 0),(.int .i64 0)]) 64 rfl Try.underlying40 info49 rfl (by decide) (by omega) v639 y638 y641 _ _ _ (fun k_=> some k_≠(.slice (some ad636) x3_1.length co17:Value).ownBlock) (fun _=> False) rfl rfl ?aO ?aR (fun _ _ h=> h) (fun _ h=> h.elim) ?aF ?aB ?aS ?aL ?_;(case aR=> repeat(first|exact(by repeat(first|(with_reducible exact HR644.out)|(with_reducible refine Kd.C_alloc ?_ _)|(with_reducible refine Kd.C_drewN ?_ _)|(with_reducible refine Kd.C_drew ?_)|exact HR644.out))|(with_reducible refine Kd.C_alloc ?_ _)|(with_reducible refine Kd.C_drewN ?_ _)|(with_reducible refine Kd.C_drew ?_)));(case aB=> exact My.bB);(case aF=> exact(fun k_ hk=> Kd.fresh' (Kd.R_lt (My.Ra HO_3.out)) k_ hk));(case aO=> exact(by(with_reducible repeat(first|apply Kd.R_alloc|apply Kd.R_drewN|apply Kd.R_drew));exact Kd.R_mono HO640.out (fun _ hk=> hk.2)));(case aS=> exact(below_size My.bB));(case aL=> have:=LMc11.out;omega);intro v646 w22 ho hb hg hat;rw [←Ny645.out] at ho;replace HB:=My.m hb;replace HR644:=My.m ((show Kd.C k49 w22 (some ad636) y641.length y641 from by rw [Ny641.out];exact Kd.C_take (m:=(x5_2:Int).toNat) ((Kd.R_reads' (Kd.R_after (ok:=(fun _=> True)) (My.Ra HO_3.out) hg hat)).2.2) KL21.out));replace HO_3:=My.m (Kd.R_after (ok:=(fun _=> True)) (My.Ra HO_3.out) hg hat);have HO647:=My.m ho;clear HO640;clear ho hb hg hat;have p648:0≤(x4_1:Int):=of_decide_eq_true My.as;have q648:x4_1 < (l0.length:Int):=of_decide_eq_true My.as;obtain⟨ad648,e648,hx648_0,hx648_1,hx648_2,hx648_3,hx648_4,hx648_5⟩:=at_T49 HR0.out x4_1 p648 q648;obtain rfl:ad635=ad648:=(by injection e648);replace hx648_0:=My.up HB.out hx648_0;replace hx648_1:=My.up HB.out hx648_1;replace hx648_2:=My.up HB.out hx648_2;replace hx648_3:=My.up HB.out hx648_3;replace hx648_4:=My.up HB.out hx648_4;replace hx648_5:=My.up HB.out hx648_5;replace p648:=eq_true p648;replace q648:=eq_true q648)|((with_reducible refine gate_builtin (b:= .append) (xs:= #[.tmp 36,.tmp 41]) rfl ?_);at_builtin;refine Kd.R_append k49 (w0:=w) w.heap.size rfl (.tmp 36) (.tmp 41) 40 49 (.agg #[(.string ⟨#[]⟩),(.string ⟨#[]⟩),(.int .i64 0),(.int .i64 0),(.int .i64 0),(.int .i64 0)]) 64 rfl Try.underlying40 info49 rfl (by decide) (by omega) v646 y645 (⟨(rd_T49 l0 x4_1).f0,(rd_T49 l0 x4_1).f1,(rd_T49 l0 x4_1).f2,(rd_T49 l0 x4_1).f3,(rd_T49 l0 x4_1).f4,(rd_T49 l0 x4_1).f5⟩:S49) [.string ((rd_T49 l0 x4_1).f0),.string ((rd_T49 l0 x4_1).f1),.int .i64 ((rd_T49 l0 x4_1).f2),.int .i64 ((rd_T49 l0 x4_1).f3),.int .i64 ((rd_T49 l0 x4_1).f4),.int .i64 ((rd_T49 l0 x4_1).f5)] (fun k_=> some k_≠(.slice (some ad636) x3_1.length co17:Value).ownBlock) (fun _=> False) rfl rfl ?aP (fun _ hk=> hk.elim) ?aF ?aO ?aB ?aS ?aL ?_;(case aP=> exact k49_mkM _ _ _ (⟨(rd_T49 l0 x4_1).f0,(rd_T49 l0 x4_1).f1,(rd_T49 l0 x4_1).f2,(rd_T49 l0 x4_1).f3,(rd_T49 l0 x4_1).f4,(rd_T49 l0 x4_1).f5⟩:S49));(case aB=> exact My.bB);(case aF=> exact(fun k_ hk=> Kd.fresh' (Kd.R_lt (My.Ra HO_3.out)) k_ hk));(case aO=> exact(My.Ra HO647.out));(case aS=> exact(below_size My.bB));(case aL=> have:=LMc12.out;omega);intro v650 w23 ho hb hg hat;rw [←Ny649.out] at ho;replace HB:=My.m hb;replace HR644:=My.m ((show Kd.C k49 w23 (some ad636) y641.length y641 from by rw [Ny641.out];exact Kd.C_take (m:=(x5_2:Int).toNat) ((Kd.R_reads' (Kd.R_after (ok:=(fun _=> True)) (My.Ra HO_3.out) hg hat)).2.2) KL21.out));replace HO_3:=My.m (Kd.R_after (ok:=(fun _=> True)) (My.Ra HO_3.out) hg hat);have HO651:=My.m ho;clear HO647;clear ho hb hg hat;have q24:(x5_2:Int)≤((x3_1.length:Int):Int):=of_decide_eq_true My.as;obtain⟨i024,hi024,_,hsz24,_⟩:=info_parts info49;have hroom24:x3_1.length≤co17:=(Kd.R_reads' HO_3.out).2.1;have hC24:Kd.C k49 _ (some ad636) x3_1.length x3_1:=(Kd.R_reads' HO_3.out).2.2;have q024:(0:Int)≤(x5_2:Int):=of_decide_eq_true My.as;have hcut24:=cut_from (P:=Try.prog) 40 49 .i64 Try.underlying40 hi024 6 hsz24 (some ad636) x3_1.length co17 x5_2 q024 q24;have hr24:=Kd.C_drop (m:=(x5_2:Int).toNat) (c:=co17) hC24 (by omega) hroom24;obtain⟨A24,hA24⟩:∃A1,A1=(if co17=(x5_2:Int).toNat then (some ad636) else ((some ad636):Option Addr).map (·.add ((x5_2:Int).toNat * 6))):=⟨_,rfl⟩;obtain⟨c24,hc24⟩:∃c1,c1=co17 - (x5_2:Int).toNat:=⟨_,rfl⟩;have hy24:y652.length=x3_1.length - (x5_2:Int).toNat:=(by rw [Ny652.out,List.length_drop] <;> omega);rw [show(x3_1).drop (x5_2:Int).toNat=y652 from Ny652.out.symm] at hr24;replace hr24:Kd.C k49 _ A24 y652.length y652:=(by rw [hA24];exact hr24);rw [←hy24,←hA24,←hc24] at hcut24;have HR655:=Aside0.mk hr24;have HC655:=My.m (show y652.length≤c24 from by rw [hy24,hc24];exact Nat.sub_le_sub_right hroom24 _);clear hr24 hC24 hroom24 hi024 hsz24 hc24;have KY24:=Aside0.mk hy24;have KA24:=Aside0.mk hA24;clear hy24 hA24;have KL24:=My.m (show(x5_2:Int).toNat≤x3_1.length from by omega);replace q24:=eq_true q24)|((with_reducible refine gate_builtin (b:= .append) (xs:= #[.tmp 43,.tmp 46]) rfl ?_);at_builtin;refine Kd.R_append_rows k49 (w0:=w) w.heap.size rfl (.tmp 43) (.tmp 46) 40 49 (.agg #[(.string ⟨#[]⟩),(.string ⟨#[]⟩),(.int .i64 0),(.int .i64 0),(.int .i64 0),(.int .i64 0)]) 64 rfl Try.underlying40 info49 rfl (by decide) (by omega) v650 y649 y652 _ _ _ (fun k_=> some k_≠(.slice (some ad636) x3_1.length co17:Value).ownBlock) (fun _=> False) rfl rfl ?aO ?aR (fun _ _ h=> h) (fun _ h=> h.elim) ?aF ?aB ?aS ?aL ?_;(case aR=> repeat(first|exact(by repeat(first|(with_reducible exact HR655.out)|(with_reducible refine Kd.C_alloc ?_ _)|(with_reducible refine Kd.C_drewN ?_ _)|(with_reducible refine Kd.C_drew ?_)|exact HR655.out))|(with_reducible refine Kd.C_alloc ?_ _)|(with_reducible refine Kd.C_drewN ?_ _)|(with_reducible refine Kd.C_drew ?_)));(case aB=> exact My.bB);(case aF=> exact(fun k_ hk=> Kd.fresh' (Kd.R_lt (My.Ra HO_3.out)) k_ hk));(case aO=> exact(My.Ra HO651.out));(case aS=> exact(below_size My.bB));(case aL=> have:=LMc15.out;omega);intro v657 w25 ho hb hg hat;rw [←Ny656.out] at ho;replace HB:=My.m hb;replace HR644:=My.m ((show Kd.C k49 w25 (some ad636) y641.length y641 from by rw [Ny641.out];exact Kd.C_take (m:=(x5_2:Int).toNat) ((Kd.R_reads' (Kd.R_after (ok:=(fun _=> True)) (My.Ra HO_3.out) hg hat)).2.2) KL21.out));replace HR655:=My.m ((show Kd.C k49 w25 A24 y652.length y652 from by rw [Ny652.out,KA24.out];exact Kd.C_drop (m:=(x5_2:Int).toNat) (c:=co17) ((Kd.R_reads' (Kd.R_after (ok:=(fun _=> True)) (My.Ra HO_3.out) hg hat)).2.2) KL24.out ((Kd.R_reads' (Kd.R_after (ok:=(fun _=> True)) (My.Ra HO_3.out) hg hat)).2.1)));replace HO_3:=My.m (Kd.R_after (ok:=(fun _=> True)) (My.Ra HO_3.out) hg hat);have HO658:=My.m ho;clear HO651;clear ho hb hg hat)))
               go_roundg k2
               case measure=> have:=HK1.out;have:=HK2.out;omega
               case rel=> exact⟨(y656),(wrap64 (x4_1 + 1)),My.q0,H',⟨by have:=HK1.out;have:=HK2.out;omega⟩,⟨by(with_reducible repeat(first|apply Kd.R_alloc|apply Kd.R_drewN|apply Kd.R_drew));exact Kd.R_mono HO658.out (fun _ hk=> trivial)⟩,⟨My.bB⟩⟩
              ·exact My.no c15 H
             ·exact My.no c12 H
            ·exact My.no c11 H
           ·exact My.no c10 H
          ·replace c8:=Bool.eq_false_iff.mpr c8
           subst c8;rw [if_neg (show¬(false=true) by decide)] at H;have H':=Aside0.mk H;clear H;(try go_wp2);replace HO_3:=My.m (Kd.R_drew HO_3.out);replace HB:=My.m (below_drew1 HB.out);obtain⟨Ao27,co27,eo27⟩:=Kd.R_slice HO_3.out;(first|subst eo27|(injection eo27 with f1_ f2_ f3_;have f4_:=f1_.symm;have f5_:=f3_.symm;clear f1_ f2_ f3_;subst f4_;subst f5_));have p635:0≤(x4_1:Int):=of_decide_eq_true My.as;have q635:x4_1 < (l0.length:Int):=of_decide_eq_true My.as;obtain⟨ad635,e635,hx635_0,hx635_1,hx635_2,hx635_3,hx635_4,hx635_5⟩:=at_T49 HR0.out x4_1 p635 q635;have hw635_5:=hx635_5;have hw635_4:=hx635_4;have hw635_3:=hx635_3;have hw635_2:=hx635_2;have hw635_1:=hx635_1;have hw635_0:=hx635_0;cases e635;replace hx635_0:=My.up HB.out hx635_0;replace hx635_1:=My.up HB.out hx635_1;replace hx635_2:=My.up HB.out hx635_2;replace hx635_3:=My.up HB.out hx635_3;replace hx635_4:=My.up HB.out hx635_4;replace hx635_5:=My.up HB.out hx635_5;replace p635:=eq_true p635;replace q635:=eq_true q635;have p636:0≤(x5_2:Int):=of_decide_eq_true My.as;have q636:x5_2 < (x3_1.length:Int):=of_decide_eq_true My.as;obtain⟨ad636,e636,hx636_0,hx636_1,hx636_2,hx636_3,hx636_4,hx636_5⟩:=at_T49 (Kd.R_reads' HO_3.out).2.2 x5_2 p636 q636;cases e636;replace p636:=eq_true p636;replace q636:=eq_true q636;refine start_ (n:=16) (S:=fun w'=> cT49 w' (ad635.add ((x4_1).toNat * 6)) (rd_T49 l0 x4_1) (eT49 w' (ad636.add ((x5_2).toNat * 6)) (rd_T49 x3_1 x5_2))) (ds:= []) (My.bl 16 0) (by kernel_rfl) rfl (by kernel_rfl) ⟨(My.uq HB.out hw635_0),(My.uq HB.out hw635_1),(My.uq HB.out hw635_2),(My.uq HB.out hw635_3),(My.uq HB.out hw635_4),(My.uq HB.out hw635_5),hx636_0,hx636_1,hx636_2,hx636_3,hx636_4,hx636_5⟩ (fun hHeld=> ?_);refine with_tabW batonref15_Order.tab6 batonref15_Order.bits6 (fun HT_ HW_=> ?_);generalize wr.drew=w26 at HO_3 HB hx635_0 hx635_1 hx635_2 hx635_3 hx635_4 hx635_5 hx636_0 hx636_1 hx636_2 hx636_3 hx636_4 hx636_5 hHeld⊢;refine My.pu 0 13 1 HT_ ?_;refine My.pu 1 14 3 HT_ ?_;refine My.pu 2 15 7 HT_ ?_;refine My.pu 3 16 15 HT_ ?_;refine My.pu 4 17 31 HT_ ?_;refine My.pu 5 18 63 HT_ ?_;refine My.pu 6 19 127 HT_ ?_;refine My.pu 7 20 255 HT_ ?_;refine My.pu 9 22 767 HT_ ?_;refine My.pu 10 23 1791 HT_ ?_;refine My.pu 11 24 3839 HT_ ?_;refine My.tk 8 21 4095 HT_ HW_ hHeld ?_;refine My.tk 12 25 8191 HT_ HW_ hHeld ?_;refine one_ (i:=13) (N:=some 26) (My.bl 16 16383) rfl rfl (one_of HT_.out (by kernel_rfl)) (by decide) (fun K hK=> ?_);refine goes_ Try.func48 (by kernel_rfl) rfl #[.agg #[.string ((rd_T49 l0 x4_1).f0),.string ((rd_T49 l0 x4_1).f1),.int .i64 ((rd_T49 l0 x4_1).f2),.int .i64 ((rd_T49 l0 x4_1).f3),.int .i64 ((rd_T49 l0 x4_1).f4),.int .i64 ((rd_T49 l0 x4_1).f5)],.agg #[.string ((rd_T49 x3_1 x5_2).f0),.string ((rd_T49 x3_1 x5_2).f1),.int .i64 ((rd_T49 x3_1 x5_2).f2),.int .i64 ((rd_T49 x3_1 x5_2).f3),.int .i64 ((rd_T49 x3_1 x5_2).f4),.int .i64 ((rd_T49 x3_1 x5_2).f5)]] (by rfl) rfl rfl My.ar ?_;(with_reducible refine(batonref15_before.calls ((rd_T49 l0 x4_1).f0) ((rd_T49 l0 x4_1).f1) ((rd_T49 l0 x4_1).f2) ((rd_T49 l0 x4_1).f3) ((rd_T49 l0 x4_1).f4) ((rd_T49 l0 x4_1).f5) ((rd_T49 x3_1 x5_2).f0) ((rd_T49 x3_1 x5_2).f1) ((rd_T49 x3_1 x5_2).f2) ((rd_T49 x3_1 x5_2).f3) ((rd_T49 x3_1 x5_2).f4) ((rd_T49 x3_1 x5_2).f5) false _ A7.out).mono ?_);rintro e w28 ⟨rfl,hb⟩;have HS6_:=(hb.cell (World.block_lt_of_cell? _ _ (hHeld.2.2.2.2.2.2.1))).trans (hHeld.2.2.2.2.2.2.1);have HS7_:=(hb.cell (World.block_lt_of_cell? _ _ (hHeld.2.2.2.2.2.2.2.1))).trans (hHeld.2.2.2.2.2.2.2.1);have HS8_:=(hb.cell (World.block_lt_of_cell? _ _ (hHeld.2.2.2.2.2.2.2.2.1))).trans (hHeld.2.2.2.2.2.2.2.2.1);have HS9_:=(hb.cell (World.block_lt_of_cell? _ _ (hHeld.2.2.2.2.2.2.2.2.2.1))).trans (hHeld.2.2.2.2.2.2.2.2.2.1);have HS10_:=(hb.cell (World.block_lt_of_cell? _ _ (hHeld.2.2.2.2.2.2.2.2.2.2.1))).trans (hHeld.2.2.2.2.2.2.2.2.2.2.1);have HS11_:=(hb.cell (World.block_lt_of_cell? _ _ (hHeld.2.2.2.2.2.2.2.2.2.2.2))).trans (hHeld.2.2.2.2.2.2.2.2.2.2.2);refine⟨_,rfl,?_⟩;replace HO_3:=My.m (Kd.R_below (My.Ra HO_3.out) hb);replace HB:=My.m (below_step My.bB hb);refine hK.out _ _ ⟨(My.uq HB.out hw635_0),(My.uq HB.out hw635_1),(My.uq HB.out hw635_2),(My.uq HB.out hw635_3),(My.uq HB.out hw635_4),(My.uq HB.out hw635_5),HS6_,HS7_,HS8_,HS9_,HS10_,HS11_⟩ (fun hHeld=> ?_);clear hK K;refine norm_ (a':= ?_) ?_ ?_;rotate_left
           ·show Act.put _ (some 26) _=_
            simp only [Act.put,List.setIfInBounds_toArray,List.set_cons_zero,List.set_cons_succ,i64_w,i32_w];rfl
           refine My.pu 14 27 32767 HT_ ?_;refine My.pu 15 28 65535 HT_ ?_;refine done_ (done_of HT_.out (by kernel_rfl)) ?_;(try go_wp2)
           go_roundg k2
           case measure=> have:=HK1.out;have:=HK2.out;omega
           case rel=> exact⟨(wrap64 (x5_2 + 1)),My.q0,H',⟨by have:=HK1.out;have:=HK2.out;omega⟩,⟨My.Ra HO_3.out⟩,⟨My.bB⟩⟩
         ·exact My.no c6 H
        ·exact My.no c5 H
       ·exact My.no c4 H
      ·rw [if_neg c3] at H
       have c3b0:=decide_eq_false c3;clear c3;obtain⟨y659,hy_⟩:∃y_:List (S49),y_=(([]:List (S49))):=⟨_,rfl⟩;replace H:(if 0≤x5_2 then (if x5_2≤(x3_1.length:Int) then ((some (x3_1.take (x5_2:Int).toNat:List (S49))).bind fun y662=> (if y659.length + y662.length < 2199023255552 then ((some (y659 ++ y662:List (S49))).bind fun y666=> (if 0≤x4_1 then (if x4_1 < (l0.length:Int) then (if y666.length < 2199023255552 then ((some (y666 ++ [(⟨(rd_T49 l0 x4_1).f0,(rd_T49 l0 x4_1).f1,(rd_T49 l0 x4_1).f2,(rd_T49 l0 x4_1).f3,(rd_T49 l0 x4_1).f4,(rd_T49 l0 x4_1).f5⟩:S49)]:List (S49))).bind fun y670=> ((some (x3_1.drop (x5_2:Int).toNat:List (S49))).bind fun y673=> (if y670.length + y673.length < 2199023255552 then (batonref15_Order.l0 k2 l0 (y670 ++ y673) (wrap64 (x4_1 + 1))) else (none)))) else (none)) else (none)) else (none))) else (none))) else (none)) else (none))=some r:=My.hr;have Ny659:=Aside0.mk hy_;clear hy_
       by_cases c29:0≤x5_2
       ·rw [if_pos c29] at H
        have c29b0:=eq_true c29;have c29b1:decide (0≤x5_2)=true:=decide_eq_true c29;clear c29
        by_cases c30:x5_2≤(x3_1.length:Int)
        ·rw [if_pos c30] at H
         have c30b0:=eq_true c30;have c30b1:decide (x5_2≤(x3_1.length:Int))=true:=decide_eq_true c30;clear c30;obtain⟨y662,hy_⟩:∃y_:List (S49),y_=(x3_1.take (x5_2:Int).toNat):=⟨_,rfl⟩;replace H:(if y659.length + y662.length < 2199023255552 then ((some (y659 ++ y662:List (S49))).bind fun y666=> (if 0≤x4_1 then (if x4_1 < (l0.length:Int) then (if y666.length < 2199023255552 then ((some (y666 ++ [(⟨(rd_T49 l0 x4_1).f0,(rd_T49 l0 x4_1).f1,(rd_T49 l0 x4_1).f2,(rd_T49 l0 x4_1).f3,(rd_T49 l0 x4_1).f4,(rd_T49 l0 x4_1).f5⟩:S49)]:List (S49))).bind fun y670=> ((some (x3_1.drop (x5_2:Int).toNat:List (S49))).bind fun y673=> (if y670.length + y673.length < 2199023255552 then (batonref15_Order.l0 k2 l0 (y670 ++ y673) (wrap64 (x4_1 + 1))) else (none)))) else (none)) else (none)) else (none))) else (none))=some r:=My.hr;have Ny662:=Aside0.mk hy_;clear hy_
         by_cases c31:y659.length + y662.length < 2199023255552
         ·rw [if_pos c31] at H
          have LMc31:=Aside0.mk c31;clear c31;obtain⟨y666,hy_⟩:∃y_:List (S49),y_=(y659 ++ y662):=⟨_,rfl⟩;replace H:(if 0≤x4_1 then (if x4_1 < (l0.length:Int) then (if y666.length < 2199023255552 then ((some (y666 ++ [(⟨(rd_T49 l0 x4_1).f0,(rd_T49 l0 x4_1).f1,(rd_T49 l0 x4_1).f2,(rd_T49 l0 x4_1).f3,(rd_T49 l0 x4_1).f4,(rd_T49 l0 x4_1).f5⟩:S49)]:List (S49))).bind fun y670=> ((some (x3_1.drop (x5_2:Int).toNat:List (S49))).bind fun y673=> (if y670.length + y673.length < 2199023255552 then (batonref15_Order.l0 k2 l0 (y670 ++ y673) (wrap64 (x4_1 + 1))) else (none)))) else (none)) else (none)) else (none))=some r:=My.hr;have Ny666:=Aside0.mk hy_;clear hy_
          by_cases c32:0≤x4_1
          ·rw [if_pos c32] at H
           have c32b0:=decide_eq_true c32;clear c32
           by_cases c33:x4_1 < (l0.length:Int)
           ·rw [if_pos c33] at H
            have c33b0:=decide_eq_true c33;clear c33
            by_cases c34:y666.length < 2199023255552
            ·rw [if_pos c34] at H
             have LMc34:=Aside0.mk c34;clear c34;obtain⟨y670,hy_⟩:∃y_:List (S49),y_=(y666 ++ [(⟨(rd_T49 l0 x4_1).f0,(rd_T49 l0 x4_1).f1,(rd_T49 l0 x4_1).f2,(rd_T49 l0 x4_1).f3,(rd_T49 l0 x4_1).f4,(rd_T49 l0 x4_1).f5⟩:S49)]):=⟨_,rfl⟩;replace H:((some (x3_1.drop (x5_2:Int).toNat:List (S49))).bind fun y673=> (if y670.length + y673.length < 2199023255552 then (batonref15_Order.l0 k2 l0 (y670 ++ y673) (wrap64 (x4_1 + 1))) else (none)))=some r:=My.hr;have Ny670:=Aside0.mk hy_;clear hy_;have c35b0:=eq_true (of_decide_eq_true My.as:0≤x5_2);have c36b0:=eq_true (of_decide_eq_true My.as:x5_2≤(x3_1.length:Int));obtain⟨y673,hy_⟩:∃y_:List (S49),y_=(x3_1.drop (x5_2:Int).toNat):=⟨_,rfl⟩;replace H:(if y670.length + y673.length < 2199023255552 then (batonref15_Order.l0 k2 l0 (y670 ++ y673) (wrap64 (x4_1 + 1))) else (none))=some r:=My.hr;have Ny673:=Aside0.mk hy_;clear hy_
             by_cases c37:y670.length + y673.length < 2199023255552
             ·rw [if_pos c37] at H
              have LMc37:=Aside0.mk c37;clear c37;obtain⟨y677,hy_⟩:∃y_:List (S49),y_=(y670 ++ y673):=⟨_,rfl⟩;replace H:(batonref15_Order.l0 k2 l0 y677 (wrap64 (x4_1 + 1)))=some r:=My.hr;have Ny677:=Aside0.mk hy_;clear hy_;have H':=Aside0.mk H;clear H;(try go_wp2);replace HO_3:=My.m (Kd.R_drew HO_3.out);replace HB:=My.m (below_drew1 HB.out);obtain⟨Ao39,co39,eo39⟩:=Kd.R_slice HO_3.out;(first|subst eo39|(injection eo39 with f1_ f2_ f3_;have f4_:=f1_.symm;have f5_:=f3_.symm;clear f1_ f2_ f3_;subst f4_;subst f5_));refine start_ (n:=16) (S:=fun w'=> True) (ds:= []) (My.bl 16 0) (by kernel_rfl) rfl (by kernel_rfl) trivial (fun hHeld=> ?_);refine with_tabW batonref15_Order.tab6 batonref15_Order.bits6 (fun HT_ HW_=> ?_);generalize wr.drew=w38 at HO_3 HB hHeld⊢;refine My.pu 0 13 1 HT_ ?_;refine My.pu 1 14 3 HT_ ?_;refine My.pu 2 15 7 HT_ ?_;refine My.pu 3 16 15 HT_ ?_;refine My.pu 4 17 31 HT_ ?_;refine My.pz 5 18 63 HT_ ?_;refine My.pz 6 19 127 HT_ ?_;refine My.pz 7 20 255 HT_ ?_;refine My.pz 8 21 511 HT_ ?_;refine My.pz 9 22 1023 HT_ ?_;refine My.pz 10 23 2047 HT_ ?_;refine My.pz 11 24 4095 HT_ ?_;refine My.pz 12 25 8191 HT_ ?_;refine My.pz 13 26 16383 HT_ ?_;refine My.pz 14 27 32767 HT_ ?_;refine My.pu 15 28 65535 HT_ ?_;refine done_ (done_of HT_.out (by kernel_rfl)) ?_;(try go_wp2_with (first|((with_reducible refine gate_dst (N:=31) rfl ?_);refine Kd.R_lit k49 _ 49 ?hg (N:=31) ?hd (xs:=([]:List (S49))) (inner:= []) (ok:=fun _=> True) (okp:=fun _=> True) ?hr ?hp (fun _ hk=> hk) trivial (Below.refl _ _) (Nat.le_refl _) (by simp) ?_;(case hd=> rfl);(case hg=> rfl);(case hr=> first|(go_simp;done)|(go_simp;rfl));(case hp=> exact(Reps.none _ _));intro v660 w40 ho41 hb hg_ hnew_;clear hg_ hnew_;(first|rw [←Ny659.out] at ho41|(simp only [Int.reduceToNat] at ho41;rw [←Ny659.out] at ho41));have HO661:=My.m (Kd.R_lower (Kd.R_new' ho41 (Kd.R_lt (My.Ra HO_3.out))) (below_size My.bB));replace HO_3:=My.m (Kd.R_elder' (My.Ra HO_3.out) (Kd.R_base ho41) hb);replace HB:=My.m (below_step My.bB hb);clear hb ho41;have q42:(x5_2:Int)≤((x3_1.length:Int):Int):=of_decide_eq_true My.as;obtain⟨i042,hi042,_,hsz42,_⟩:=info_parts info49;have hroom42:x3_1.length≤co39:=(Kd.R_reads' HO_3.out).2.1;have hC42:Kd.C k49 _ Ao39 x3_1.length x3_1:=(Kd.R_reads' HO_3.out).2.2;have hcut42:=cut_to (P:=Try.prog) 40 49 .i64 Try.underlying40 hi042 Ao39 x3_1.length co39 x5_2 (of_decide_eq_true My.as) q42 hroom42;have hr42:=Kd.C_take (m:=(x5_2:Int).toNat) hC42 (by omega);have hy42:y662.length=(x5_2:Int).toNat:=(by rw [Ny662.out,List.length_take];omega);rw [←Ny662.out] at hr42;rw [←hy42] at hcut42;have HR665:=Aside0.mk hr42;have HC665:=My.m (show y662.length≤co39 from by omega);clear hr42 hC42 hroom42 hi042 hsz42;have KY42:=Aside0.mk hy42;clear hy42;have KL42:=My.m (show(x5_2:Int).toNat≤x3_1.length from by omega);replace q42:=eq_true q42)|((with_reducible refine gate_builtin (b:= .append) (xs:= #[.tmp 31,.tmp 34]) rfl ?_);at_builtin;refine Kd.R_append_rows k49 (w0:=w) w.heap.size rfl (.tmp 31) (.tmp 34) 40 49 (.agg #[(.string ⟨#[]⟩),(.string ⟨#[]⟩),(.int .i64 0),(.int .i64 0),(.int .i64 0),(.int .i64 0)]) 64 rfl Try.underlying40 info49 rfl (by decide) (by omega) v660 y659 y662 _ _ _ (fun k_=> some k_≠(.slice Ao39 x3_1.length co39:Value).ownBlock) (fun _=> False) rfl rfl ?aO ?aR (fun _ _ h=> h) (fun _ h=> h.elim) ?aF ?aB ?aS ?aL ?_;(case aR=> repeat(first|exact(by repeat(first|(with_reducible exact HR665.out)|(with_reducible refine Kd.C_alloc ?_ _)|(with_reducible refine Kd.C_drewN ?_ _)|(with_reducible refine Kd.C_drew ?_)|exact HR665.out))|(with_reducible refine Kd.C_alloc ?_ _)|(with_reducible refine Kd.C_drewN ?_ _)|(with_reducible refine Kd.C_drew ?_)));(case aB=> exact My.bB);(case aF=> exact(fun k_ hk=> Kd.fresh' (Kd.R_lt (My.Ra HO_3.out)) k_ hk));(case aO=> exact(by(with_reducible repeat(first|apply Kd.R_alloc|apply Kd.R_drewN|apply Kd.R_drew));exact Kd.R_mono HO661.out (fun _ hk=> hk.2)));(case aS=> exact(below_size My.bB));(case aL=> have:=LMc31.out;omega);intro v667 w43 ho hb hg hat;rw [←Ny666.out] at ho;replace HB:=My.m hb;replace HR665:=My.m ((show Kd.C k49 w43 Ao39 y662.length y662 from by rw [Ny662.out];exact Kd.C_take (m:=(x5_2:Int).toNat) ((Kd.R_reads' (Kd.R_after (ok:=(fun _=> True)) (My.Ra HO_3.out) hg hat)).2.2) KL42.out));replace HO_3:=My.m (Kd.R_after (ok:=(fun _=> True)) (My.Ra HO_3.out) hg hat);have HO668:=My.m ho;clear HO661;clear ho hb hg hat;have p669:0≤(x4_1:Int):=of_decide_eq_true My.as;have q669:x4_1 < (l0.length:Int):=of_decide_eq_true My.as;obtain⟨ad669,e669,hx669_0,hx669_1,hx669_2,hx669_3,hx669_4,hx669_5⟩:=at_T49 HR0.out x4_1 p669 q669;cases e669;replace hx669_0:=My.up HB.out hx669_0;replace hx669_1:=My.up HB.out hx669_1;replace hx669_2:=My.up HB.out hx669_2;replace hx669_3:=My.up HB.out hx669_3;replace hx669_4:=My.up HB.out hx669_4;replace hx669_5:=My.up HB.out hx669_5;replace p669:=eq_true p669;replace q669:=eq_true q669)|((with_reducible refine gate_builtin (b:= .append) (xs:= #[.tmp 36,.tmp 41]) rfl ?_);at_builtin;refine Kd.R_append k49 (w0:=w) w.heap.size rfl (.tmp 36) (.tmp 41) 40 49 (.agg #[(.string ⟨#[]⟩),(.string ⟨#[]⟩),(.int .i64 0),(.int .i64 0),(.int .i64 0),(.int .i64 0)]) 64 rfl Try.underlying40 info49 rfl (by decide) (by omega) v667 y666 (⟨(rd_T49 l0 x4_1).f0,(rd_T49 l0 x4_1).f1,(rd_T49 l0 x4_1).f2,(rd_T49 l0 x4_1).f3,(rd_T49 l0 x4_1).f4,(rd_T49 l0 x4_1).f5⟩:S49) [.string ((rd_T49 l0 x4_1).f0),.string ((rd_T49 l0 x4_1).f1),.int .i64 ((rd_T49 l0 x4_1).f2),.int .i64 ((rd_T49 l0 x4_1).f3),.int .i64 ((rd_T49 l0 x4_1).f4),.int .i64 ((rd_T49 l0 x4_1).f5)] (fun k_=> some k_≠(.slice Ao39 x3_1.length co39:Value).ownBlock) (fun _=> False) rfl rfl ?aP (fun _ hk=> hk.elim) ?aF ?aO ?aB ?aS ?aL ?_;(case aP=> exact k49_mkM _ _ _ (⟨(rd_T49 l0 x4_1).f0,(rd_T49 l0 x4_1).f1,(rd_T49 l0 x4_1).f2,(rd_T49 l0 x4_1).f3,(rd_T49 l0 x4_1).f4,(rd_T49 l0 x4_1).f5⟩:S49));(case aB=> exact My.bB);(case aF=> exact(fun k_ hk=> Kd.fresh' (Kd.R_lt (My.Ra HO_3.out)) k_ hk));(case aO=> exact(My.Ra HO668.out));(case aS=> exact(below_size My.bB));(case aL=> have:=LMc34.out;omega);intro v671 w44 ho hb hg hat;rw [←Ny670.out] at ho;replace HB:=My.m hb;replace HR665:=My.m ((show Kd.C k49 w44 Ao39 y662.length y662 from by rw [Ny662.out];exact Kd.C_take (m:=(x5_2:Int).toNat) ((Kd.R_reads' (Kd.R_after (ok:=(fun _=> True)) (My.Ra HO_3.out) hg hat)).2.2) KL42.out));replace HO_3:=My.m (Kd.R_after (ok:=(fun _=> True)) (My.Ra HO_3.out) hg hat);have HO672:=My.m ho;clear HO668;clear ho hb hg hat;have q45:(x5_2:Int)≤((x3_1.length:Int):Int):=of_decide_eq_true My.as;obtain⟨i045,hi045,_,hsz45,_⟩:=info_parts info49;have hroom45:x3_1.length≤co39:=(Kd.R_reads' HO_3.out).2.1;have hC45:Kd.C k49 _ Ao39 x3_1.length x3_1:=(Kd.R_reads' HO_3.out).2.2;have q045:(0:Int)≤(x5_2:Int):=of_decide_eq_true My.as;have hcut45:=cut_from (P:=Try.prog) 40 49 .i64 Try.underlying40 hi045 6 hsz45 Ao39 x3_1.length co39 x5_2 q045 q45;have hr45:=Kd.C_drop (m:=(x5_2:Int).toNat) (c:=co39) hC45 (by omega) hroom45;obtain⟨A45,hA45⟩:∃A1,A1=(if co39=(x5_2:Int).toNat then Ao39 else (Ao39:Option Addr).map (·.add ((x5_2:Int).toNat * 6))):=⟨_,rfl⟩;obtain⟨c45,hc45⟩:∃c1,c1=co39 - (x5_2:Int).toNat:=⟨_,rfl⟩;have hy45:y673.length=x3_1.length - (x5_2:Int).toNat:=(by rw [Ny673.out,List.length_drop] <;> omega);rw [show(x3_1).drop (x5_2:Int).toNat=y673 from Ny673.out.symm] at hr45;replace hr45:Kd.C k49 _ A45 y673.length y673:=(by rw [hA45];exact hr45);rw [←hy45,←hA45,←hc45] at hcut45;have HR676:=Aside0.mk hr45;have HC676:=My.m (show y673.length≤c45 from by rw [hy45,hc45];exact Nat.sub_le_sub_right hroom45 _);clear hr45 hC45 hroom45 hi045 hsz45 hc45;have KY45:=Aside0.mk hy45;have KA45:=Aside0.mk hA45;clear hy45 hA45;have KL45:=My.m (show(x5_2:Int).toNat≤x3_1.length from by omega);replace q45:=eq_true q45)|((with_reducible refine gate_builtin (b:= .append) (xs:= #[.tmp 43,.tmp 46]) rfl ?_);at_builtin;refine Kd.R_append_rows k49 (w0:=w) w.heap.size rfl (.tmp 43) (.tmp 46) 40 49 (.agg #[(.string ⟨#[]⟩),(.string ⟨#[]⟩),(.int .i64 0),(.int .i64 0),(.int .i64 0),(.int .i64 0)]) 64 rfl Try.underlying40 info49 rfl (by decide) (by omega) v671 y670 y673 _ _ _ (fun k_=> some k_≠(.slice Ao39 x3_1.length co39:Value).ownBlock) (fun _=> False) rfl rfl ?aO ?aR (fun _ _ h=> h) (fun _ h=> h.elim) ?aF ?aB ?aS ?aL ?_;(case aR=> repeat(first|exact(by repeat(first|(with_reducible exact HR676.out)|(with_reducible refine Kd.C_alloc ?_ _)|(with_reducible refine Kd.C_drewN ?_ _)|(with_reducible refine Kd.C_drew ?_)|exact HR676.out))|(with_reducible refine Kd.C_alloc ?_ _)|(with_reducible refine Kd.C_drewN ?_ _)|(with_reducible refine Kd.C_drew ?_)));(case aB=> exact My.bB);(case aF=> exact(fun k_ hk=> Kd.fresh' (Kd.R_lt (My.Ra HO_3.out)) k_ hk));(case aO=> exact(My.Ra HO672.out));(case aS=> exact(below_size My.bB));(case aL=> have:=LMc37.out;omega);intro v678 w46 ho hb hg hat;rw [←Ny677.out] at ho;replace HB:=My.m hb;replace HR665:=My.m ((show Kd.C k49 w46 Ao39 y662.length y662 from by rw [Ny662.out];exact Kd.C_take (m:=(x5_2:Int).toNat) ((Kd.R_reads' (Kd.R_after (ok:=(fun _=> True)) (My.Ra HO_3.out) hg hat)).2.2) KL42.out));replace HR676:=My.m ((show Kd.C k49 w46 A45 y673.length y673 from by rw [Ny673.out,KA45.out];exact Kd.C_drop (m:=(x5_2:Int).toNat) (c:=co39) ((Kd.R_reads' (Kd.R_after (ok:=(fun _=> True)) (My.Ra HO_3.out) hg hat)).2.2) KL45.out ((Kd.R_reads' (Kd.R_after (ok:=(fun _=> True)) (My.Ra HO_3.out) hg hat)).2.1)));replace HO_3:=My.m (Kd.R_after (ok:=(fun _=> True)) (My.Ra HO_3.out) hg hat);have HO679:=My.m ho;clear HO672;clear ho hb hg hat)))
              go_roundg k2
              case measure=> have:=HK1.out;have:=HK2.out;omega
              case rel=> exact⟨(y677),(wrap64 (x4_1 + 1)),My.q0,H',⟨by have:=HK1.out;have:=HK2.out;omega⟩,⟨by(with_reducible repeat(first|apply Kd.R_alloc|apply Kd.R_drewN|apply Kd.R_drew));exact Kd.R_mono HO679.out (fun _ hk=> trivial)⟩,⟨My.bB⟩⟩
             ·exact My.no c37 H
            ·exact My.no c34 H
           ·exact My.no c33 H
          ·exact My.no c32 H
         ·exact My.no c31 H
        ·exact My.no c30 H
       ·exact My.no c29 H
   ·rw [if_neg c2] at H
    have c2b0:=decide_eq_false c2;clear c2;obtain rfl:=Option.some.inj H
    go_wp2
    go_ret
    exact⟨_,My.q1,My.Ra HO_3.out,My.bB⟩

end Go.Proofs.Ytlmiojialcdcmaa.PM
