import Derived.Test.YtaebmmjhokjdbaaPM0
import Derived.Test.YtaebmmjhokjdbaaPM1
namespace Go.Proofs.Ytaebmmjhokjdbaa.PM
open Go.RowKit Go.Proofs.YtaebmmjhokjdbaaW.PrintWords Go.Proofs.YtaebmmjhokjdbaaW.PrintLast Go.Proofs.YtaebmmjhokjdbaaW.PrintMore
attribute [local go_sem] max2_int min2_int max_two min_two max_three min_three max_four min_four
attribute [local go_sem high] Go.Proofs.Ytaebmmjhokjdbaa.My.str_leq Go.Proofs.Ytaebmmjhokjdbaa.My.str_gtr Go.Proofs.Ytaebmmjhokjdbaa.My.str_geq
set_option linter.unusedVariables false
set_option linter.unusedSimpArgs false

attribute [local go_sem high] eqA26
/-! ### batonref03_KVs: function 21 -/
def batonref03_KVs.l0:Nat→List (S26)→List (S26)→Int→Option (Bool)
  |0,_,_,_=> none
  |k + 1,x0,x1,x5=> if x5 < (x0.length:Int) then (if 0≤x5 then (if x5 < (x1.length:Int) then (if (!((((rd_T26 x0 x5).f0).toList) == (((rd_T26 x1 x5).f0).toList)) || (!((((rd_T26 x0 x5).f1).toList) == (((rd_T26 x1 x5).f1).toList)) || (!(((rd_T26 x0 x5).f2) == ((rd_T26 x1 x5).f2)) || (!(((rd_T26 x0 x5).f3) == ((rd_T26 x1 x5).f3)) || (!(((rd_T26 x0 x5).f4) == ((rd_T26 x1 x5).f4)) || (!(((rd_T26 x0 x5).f5) == ((rd_T26 x1 x5).f5))))))))=true then (some false) else (batonref03_KVs.l0 k x0 x1 (wrap64 (x5 + 1)))) else (none)) else (none)) else (some true)
def batonref03_KVs.f (k:Nat) (l0:List (S26)) (l1:List (S26)):Option (Bool):=if (l0.length:Int)=(l1.length:Int) then (batonref03_KVs.l0 k l0 l1 0) else (some false)
theorem batonref03_KVs.mono_l:∀k,(∀y0 y1 y2,LeO (batonref03_KVs.l0 k y0 y1 y2) (batonref03_KVs.l0 (k + 1) y0 y1 y2))
  |0=> fun _ _ _ r h=> by simp [batonref03_KVs.l0] at h
  |k + 1=> by
    have ih0:=batonref03_KVs.mono_l k
    · intro y0 y1 y2
      unfold batonref03_KVs.l0
      exact My.mono_
theorem batonref03_KVs.mono:∀a0 a1 k,LeO (batonref03_KVs.f k a0 a1) (batonref03_KVs.f (k + 1) a0 a1):=by
  intro a0 a1 k
  have ih0:=batonref03_KVs.mono_l k
  unfold batonref03_KVs.f
  exact My.mono_
set_option maxHeartbeats 80000000 in
set_option maxRecDepth 100000 in
theorem batonref03_KVs.calls (k:Nat) (A0:Option Addr) (c0:Nat) (l0:List (S26)) (A1:Option Addr) (c1:Nat) (l1:List (S26)) (r:Bool) (w:World) (hr0:Kd.C k26 w A0 l0.length l0) (hc0:l0.length≤c0) (hr1:Kd.C k26 w A1 l1.length l1) (hc1:l1.length≤c1) (h:batonref03_KVs.f k l0 l1=some r):
    Calls Try.prog 21 #[.slice A0 l0.length c0,.slice A1 l1.length c1] w fun e w'=> e= .returned (.bool r)∧Drawn0 w w':=by
  have hu26:=Try.underlying26;have HR0:=Aside0.mk hr0;have HC0:=Aside0.mk hc0;clear hr0 hc0;have HR1:=Aside0.mk hr1;have HC1:=Aside0.mk hc1;clear hr1 hc1;have H:(if (l0.length:Int)=(l1.length:Int) then (batonref03_KVs.l0 k l0 l1 0) else (some false))=some r:=h;clear h
  by_cases c3:(l0.length:Int)=(l1.length:Int)
  · rw [if_pos c3] at H
    have c3b0:((l0.length:Int) == (l1.length:Int))=true:=beq_iff_eq.mpr c3;have c3b1:((l0.length:Int) != (l1.length:Int))=false:=bne_eq_false_iff_eq.mpr c3;(have c3b2:(l0.length == l1.length)=true:=by first|simpa using c3|(simp at c3⊢;omega));clear c3;have H':=Aside0.mk H;clear H
    go_enter Try.func21,Try.ntmps21
    go_wp2
    repeat(go_quiet (fail);try go_wp2)
    go_loopg [5] k (fun kq v5 w'=> ∃(x5_1:Int),v5= .int .i64 x5_1∧Aside0 (batonref03_KVs.l0 kq l0 l1 x5_1=some r)∧Aside0 (kq≤k)∧Drawn0 w w')
    case atStart=> exact⟨(0),My.q0,H',⟨Nat.le_refl _⟩,My.dD⟩
    case round=>
      clear H';(repeat first|clear c1|clear c2|clear p2|clear c3|clear c3b0|clear c3b1|clear c3b2);obtain⟨x5_1,rfl,HA,HK1,⟨m1,rfl⟩⟩:=hrel
      cases gk with
      |zero=> exact absurd HA.out (by simp [batonref03_KVs.l0])
      |succ k1=>
        have H:=HA.out;clear HA;simp only [batonref03_KVs.l0] at H
        by_cases c4:x5_1 < (l0.length:Int)
        · rw [if_pos c4] at H
          have c4b0:=decide_eq_true c4;clear c4
          by_cases c5:0≤x5_1
          · rw [if_pos c5] at H
            have c5b0:=decide_eq_true c5;clear c5
            by_cases c6:x5_1 < (l1.length:Int)
            · rw [if_pos c6] at H
              have c6b0:=decide_eq_true c6;clear c6
              by_cases c7:(!((((rd_T26 l0 x5_1).f0).toList) == (((rd_T26 l1 x5_1).f0).toList)) || (!((((rd_T26 l0 x5_1).f1).toList) == (((rd_T26 l1 x5_1).f1).toList)) || (!(((rd_T26 l0 x5_1).f2) == ((rd_T26 l1 x5_1).f2)) || (!(((rd_T26 l0 x5_1).f3) == ((rd_T26 l1 x5_1).f3)) || (!(((rd_T26 l0 x5_1).f4) == ((rd_T26 l1 x5_1).f4)) || (!(((rd_T26 l0 x5_1).f5) == ((rd_T26 l1 x5_1).f5))))))))=true
              · rw [if_pos c7] at H
                have c7b0:(!((((rd_T26 l0 x5_1).f0).toList) == (((rd_T26 l1 x5_1).f0).toList)) || (!((((rd_T26 l0 x5_1).f1).toList) == (((rd_T26 l1 x5_1).f1).toList)) || (!(((rd_T26 l0 x5_1).f2) == ((rd_T26 l1 x5_1).f2)) || (!(((rd_T26 l0 x5_1).f3) == ((rd_T26 l1 x5_1).f3)) || (!(((rd_T26 l0 x5_1).f4) == ((rd_T26 l1 x5_1).f4)) || (!(((rd_T26 l0 x5_1).f5) == ((rd_T26 l1 x5_1).f5))))))))=true:=c7;clear c7;obtain rfl:=Option.some.inj H;have p614:0≤(x5_1:Int):=of_decide_eq_true My.as;have q614:x5_1 < (l0.length:Int):=of_decide_eq_true My.as;obtain⟨ad614,e614,hx614_0,hx614_1,hx614_2,hx614_3,hx614_4,hx614_5⟩:=at_T26 HR0.out x5_1 p614 q614;cases e614;replace p614:=eq_true p614;replace q614:=eq_true q614;have p615:0≤(x5_1:Int):=of_decide_eq_true My.as;have q615:x5_1 < (l1.length:Int):=of_decide_eq_true My.as;obtain⟨ad615,e615,hx615_0,hx615_1,hx615_2,hx615_3,hx615_4,hx615_5⟩:=at_T26 HR1.out x5_1 p615 q615;cases e615;replace p615:=eq_true p615;replace q615:=eq_true q615
                go_wp2
                repeat(go_quiet (fail);try go_wp2)
                go_ret
                exact⟨My.q0,My.dD⟩
              · rw [if_neg c7] at H
                (have c7b0:(!((((rd_T26 l0 x5_1).f0).toList) == (((rd_T26 l1 x5_1).f0).toList)) || (!((((rd_T26 l0 x5_1).f1).toList) == (((rd_T26 l1 x5_1).f1).toList)) || (!(((rd_T26 l0 x5_1).f2) == ((rd_T26 l1 x5_1).f2)) || (!(((rd_T26 l0 x5_1).f3) == ((rd_T26 l1 x5_1).f3)) || (!(((rd_T26 l0 x5_1).f4) == ((rd_T26 l1 x5_1).f4)) || (!(((rd_T26 l0 x5_1).f5) == ((rd_T26 l1 x5_1).f5))))))))=false:=by simpa using c7);clear c7;have H':=Aside0.mk H;clear H;have p614:0≤(x5_1:Int):=of_decide_eq_true My.as;have q614:x5_1 < (l0.length:Int):=of_decide_eq_true My.as;obtain⟨ad614,e614,hx614_0,hx614_1,hx614_2,hx614_3,hx614_4,hx614_5⟩:=at_T26 HR0.out x5_1 p614 q614;cases e614;replace p614:=eq_true p614;replace q614:=eq_true q614;have p615:0≤(x5_1:Int):=of_decide_eq_true My.as;have q615:x5_1 < (l1.length:Int):=of_decide_eq_true My.as;obtain⟨ad615,e615,hx615_0,hx615_1,hx615_2,hx615_3,hx615_4,hx615_5⟩:=at_T26 HR1.out x5_1 p615 q615;cases e615;replace p615:=eq_true p615;replace q615:=eq_true q615
                go_wp2
                repeat(go_quiet (fail);try go_wp2)
                go_roundg k1
                case measure=> have:=HK1.out;omega
                case rel=> exact⟨(wrap64 (x5_1 + 1)),My.q0,H',⟨by have:=HK1.out;omega⟩,My.dD⟩
            · exact My.no c6 H
          · exact My.no c5 H
        · rw [if_neg c4] at H
          have c4b0:=decide_eq_false c4;clear c4;obtain rfl:=Option.some.inj H
          go_wp2
          repeat(go_quiet (fail);try go_wp2)
          go_ret
          exact⟨My.q0,My.dD⟩
  · rw [if_neg c3] at H
    have c3b0:((l0.length:Int) == (l1.length:Int))=false:=beq_eq_false_iff_ne.mpr c3;have c3b1:((l0.length:Int) != (l1.length:Int))=true:=bne_iff_ne.mpr c3;(have c3b2:(l0.length == l1.length)=false:=by first|simpa using c3|(simp at c3⊢;omega));obtain rfl:=Option.some.inj H
    go_enter Try.func21,Try.ntmps21
    go_wp2
    repeat(go_quiet (fail);try go_wp2)
    go_ret
    exact⟨My.q0,My.dD⟩

end Go.Proofs.Ytaebmmjhokjdbaa.PM
