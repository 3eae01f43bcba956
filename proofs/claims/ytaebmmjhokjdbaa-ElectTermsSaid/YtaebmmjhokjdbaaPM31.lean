import Derived.Test.YtaebmmjhokjdbaaPM0
import Derived.Test.YtaebmmjhokjdbaaPM1
import Derived.Test.YtaebmmjhokjdbaaPM3
import Derived.Test.YtaebmmjhokjdbaaPM25
import Derived.Test.YtaebmmjhokjdbaaPM26
import Derived.Test.YtaebmmjhokjdbaaPM27
namespace Go.Proofs.Ytaebmmjhokjdbaa.PM
open Go.RowKit Go.Proofs.YtaebmmjhokjdbaaW.PrintWords Go.Proofs.YtaebmmjhokjdbaaW.PrintLast Go.Proofs.YtaebmmjhokjdbaaW.PrintMore
attribute [local go_sem] max2_int min2_int max_two min_two max_three min_three max_four min_four
attribute [local go_sem high] Go.Proofs.Ytaebmmjhokjdbaa.My.str_leq Go.Proofs.Ytaebmmjhokjdbaa.My.str_gtr Go.Proofs.Ytaebmmjhokjdbaa.My.str_geq
set_option linter.unusedVariables false
set_option linter.unusedSimpArgs false

attribute [local go_sem high] eqA26
/-! ### batonref05_Few: function 22 -/
def batonref05_Few.f (k:Nat) (a0_0:Int) (a0_1:Int) (l0_2:List (S26)) (l0_3:List (S54)):Option (Bool):=(batonref03_Few.f k l0_2 40).bind fun t635=> (if t635=true then ((batonref03_FewEvents.f k l0_3 70).bind fun t636=> (some t636)) else (some false))
theorem batonref05_Few.mono:∀a0 a1 a2 a3 k,LeO (batonref05_Few.f k a0 a1 a2 a3) (batonref05_Few.f (k + 1) a0 a1 a2 a3):=by
  intro a0 a1 a2 a3 k
  unfold batonref05_Few.f
  have ic0:= @batonref03_Few.mono;have ic1:= @batonref03_FewEvents.mono;exact My.mono_
set_option maxHeartbeats 80000000 in
set_option maxRecDepth 100000 in
theorem batonref05_Few.calls (k:Nat) (a0_0:Int) (a0_1:Int) (A0_2:Option Addr) (c0_2:Nat) (l0_2:List (S26)) (A0_3:Option Addr) (c0_3:Nat) (l0_3:List (S54)) (r:Bool) (w:World) (hr0_2:Kd.C k26 w A0_2 l0_2.length l0_2) (hc0_2:l0_2.length≤c0_2) (hr0_3:Kd.C k54 w A0_3 l0_3.length l0_3) (hc0_3:l0_3.length≤c0_3) (h:batonref05_Few.f k a0_0 a0_1 l0_2 l0_3=some r):
    Calls Try.prog 22 #[.agg #[.int .i64 a0_0,.int .i64 a0_1,.slice A0_2 l0_2.length c0_2,.slice A0_3 l0_3.length c0_3]] w fun e w'=> e= .returned (.bool r)∧Below w.heap.size w w':=by
  have hu42:=Try.underlying42;have HR0_2:=Aside0.mk hr0_2;have HC0_2:=Aside0.mk hc0_2;clear hr0_2 hc0_2;have HR0_3:=Aside0.mk hr0_3;have HC0_3:=Aside0.mk hc0_3;clear hr0_3 hc0_3;have HB:=My.m (Below.refl w.heap.size w);have H:=h;clear h;unfold batonref05_Few.f at H;replace H:=Option.bind_eq_some_iff.mp H;obtain⟨t635,A20,H⟩:=H;have A2:=Aside0.mk A20;clear A20
  by_cases c3:t635=true
  · subst c3
    rw [if_pos rfl] at H;replace H:=Option.bind_eq_some_iff.mp H;obtain⟨t636,A40,H⟩:=H;have A4:=Aside0.mk A40;clear A40;obtain rfl:=Option.some.inj H
    go_enter Try.func22,Try.ntmps22
    go_wp2_with (first|((with_reducible refine gate_dst (N:=1) rfl ?_);refine My.be 1 42 #[.int .i64 a0_0,.int .i64 a0_1,.slice A0_2 l0_2.length c0_2,.slice A0_3 l0_3.length c0_3] ?_;intro gb634 hg w5 hbox hb;have BK634:=My.m hbox;have GW634:=My.m ((My.nw w hg My.bB));have GE634:=My.m ((My.nw w hg My.bB));replace HB:=My.m (below_step My.bB hb);clear hb hbox hg;obtain⟨_,_,_,_⟩:=My.qc4 BK634.out;obtain⟨_,_,_,_⟩:=My.qf4 BK634.out)|((with_reducible refine gate_callee (f:=9) rfl ?_);refine goesL_ (some 5) rfl rfl Try.func9 (by kernel_rfl) rfl #[.slice A0_2 l0_2.length c0_2,.int .i64 40] rfl My.ar ?_;(with_reducible refine(batonref03_Few.calls k _ _ l0_2 40 true _ ?side1 ?side2 A2.out).mono ?_);(case side1=> exact My.Ca (Kd.C_below HR0_2.out HB.out));(case side2=> exact HC0_2.out);rintro e w' ⟨rfl,⟨nd,rfl⟩⟩;refine⟨_,rfl,?_⟩)|(go_at_call 18;(with_reducible refine(batonref03_FewEvents.calls k _ _ l0_3 70 t636 _ ?side1 ?side2 A4.out).mono ?_);(case side1=> repeat(first|exact(Kd.C_below HR0_3.out My.bA)|(with_reducible refine Kd.C_alloc ?_ _)|(with_reducible refine Kd.C_drewN ?_ _)|(with_reducible refine Kd.C_drew ?_)));(case side2=> exact HC0_3.out);rintro e w' ⟨rfl,⟨nd,rfl⟩⟩))
    go_ret
    exact⟨My.q1,My.bA⟩
  · replace c3:=Bool.eq_false_iff.mpr c3
    subst c3;rw [if_neg (show¬(false=true) by decide)] at H;obtain rfl:=Option.some.inj H
    go_enter Try.func22,Try.ntmps22
    go_wp2_with (first|((with_reducible refine gate_dst (N:=1) rfl ?_);refine My.be 1 42 #[.int .i64 a0_0,.int .i64 a0_1,.slice A0_2 l0_2.length c0_2,.slice A0_3 l0_3.length c0_3] ?_;intro gb634 hg w7 hbox hb;have BK634:=My.m hbox;have GW634:=My.m ((My.nw w hg My.bB));have GE634:=My.m ((My.nw w hg My.bB));replace HB:=My.m (below_step My.bB hb);clear hb hbox hg;obtain⟨_,_,_,_⟩:=My.qc4 BK634.out;obtain⟨_,_,_,_⟩:=My.qf4 BK634.out)|((with_reducible refine gate_callee (f:=9) rfl ?_);refine goesL_ (some 5) rfl rfl Try.func9 (by kernel_rfl) rfl #[.slice A0_2 l0_2.length c0_2,.int .i64 40] rfl My.ar ?_;(with_reducible refine(batonref03_Few.calls k _ _ l0_2 40 false _ ?side1 ?side2 A2.out).mono ?_);(case side1=> exact My.Ca (Kd.C_below HR0_2.out HB.out));(case side2=> exact HC0_2.out);rintro e w' ⟨rfl,⟨nd,rfl⟩⟩;refine⟨_,rfl,?_⟩))
    go_ret
    exact⟨My.q1,My.bA⟩

/-! ### batonref02_Check: function 66 -/
mutual
def batonref02_Check.j0:Nat→ByteArray→Bool→Option (Bool)
  |0,_,_=> none
  |k + 1,x0,x11=> if x11=true then (some false) else (batonref02_Check.l0 k x0 0)
def batonref02_Check.l0:Nat→ByteArray→Int→Option (Bool)
  |0,_,_=> none
  |k + 1,x0,x3=> if x3 < (x0.size:Int) then (if 0≤x3 then (if (bt x0 x3) < 33 then (some false) else (if (bt x0 x3) > 126 then (some false) else (batonref02_Check.l0 k x0 (wrap64 (x3 + 1))))) else (none)) else (some true)
end
def batonref02_Check.f (k:Nat) (a0:ByteArray):Option (Bool):=if (a0.size:Int) < 1 then (batonref02_Check.j0 k a0 true) else (batonref02_Check.j0 k a0 (decide ((a0.size:Int) > 40)))
theorem batonref02_Check.mono_l:∀k,(∀y0 y1,LeO (batonref02_Check.j0 k y0 y1) (batonref02_Check.j0 (k + 1) y0 y1))∧(∀y0 y1,LeO (batonref02_Check.l0 k y0 y1) (batonref02_Check.l0 (k + 1) y0 y1))
  |0=> ⟨fun _ _ r h=> by simp [batonref02_Check.j0] at h,fun _ _ r h=> by simp [batonref02_Check.l0] at h⟩
  |k + 1=> by
    obtain⟨ih0,ih1⟩:=batonref02_Check.mono_l k
    refine⟨?_,?_⟩
    · intro y0 y1
      unfold batonref02_Check.j0
      exact My.mono_
    · intro y0 y1
      unfold batonref02_Check.l0
      exact My.mono_
theorem batonref02_Check.mono:∀a0 k,LeO (batonref02_Check.f k a0) (batonref02_Check.f (k + 1) a0):=by
  intro a0 k
  obtain⟨ih0,ih1⟩:=batonref02_Check.mono_l k
  unfold batonref02_Check.f
  exact My.mono_
set_option maxHeartbeats 80000000 in
set_option maxRecDepth 100000 in
theorem batonref02_Check.calls (k:Nat) (a0:ByteArray) (r:Bool) (w:World) (h:batonref02_Check.f k a0=some r):
    Calls Try.prog 66 #[.string a0] w fun e w'=> e= .returned (.bool r)∧Drawn0 w w':=by
  have H:=h;clear h;unfold batonref02_Check.f at H;have HC2:=Aside0.mk H;clear H
  go_enter Try.func66,Try.ntmps66
  go_upto_region 1 with (fail)
  go_cut [11] (fun v11 wc=> ∃(kq:Nat) (x11_1:Bool),v11= .bool x11_1∧Aside0 (batonref02_Check.j0 kq a0 x11_1=some r)∧Aside0 (kq≤k)∧Drawn0 w wc)
  case first=>
    have H:=HC2.out;clear HC2
    by_cases c3:(a0.size:Int) < 1
    · rw [if_pos c3] at H
      have c3b0:=decide_eq_true c3;have c3b1:decide (a0.size < 1)=true:=decide_eq_true (by omega);clear c3;(first|rw [c3b0]|(simp only [i64_w,i32_w];rw [c3b0])|skip);have H':=Aside0.mk H;clear H
      go_wp2
      go_meet
      case rel=> exact⟨_,(true),My.q0,H',⟨by first|omega|exact Nat.le_refl _⟩,My.dD⟩
    · rw [if_neg c3] at H
      have c3b0:=decide_eq_false c3;have c3b1:decide (a0.size < 1)=false:=decide_eq_false (by omega);clear c3;(first|rw [c3b0]|(simp only [i64_w,i32_w];rw [c3b0])|skip);have H':=Aside0.mk H;clear H
      go_wp2
      go_meet
      case rel=> exact⟨_,(decide ((a0.size:Int) > 40)),My.q0,H',⟨by first|omega|exact Nat.le_refl _⟩,My.dD⟩
  case rest=>
    clear HC2;(repeat first|clear p2|clear c3|clear c3b0|clear c3b1);obtain⟨kq,x11_1,rfl,HA,HJ1,⟨mc1,rfl⟩⟩:=hcut
    cases kq with
    |zero=> exact absurd HA.out (by simp [batonref02_Check.j0])
    |succ kj1=>
      have H:=HA.out;clear HA;simp only [batonref02_Check.j0] at H
      by_cases c4:x11_1=true
      · subst c4
        rw [if_pos rfl] at H;obtain rfl:=Option.some.inj H
        go_wp2
        go_ret
        exact⟨My.q0,My.dD⟩
      · replace c4:=Bool.eq_false_iff.mpr c4
        subst c4;rw [if_neg (show¬(false=true) by decide)] at H;have H':=Aside0.mk H;clear H
        go_wp2
        go_loopg [3] kj1 (fun kq v3 w'=> ∃(x3_2:Int),v3= .int .i64 x3_2∧Aside0 (batonref02_Check.l0 kq a0 x3_2=some r)∧Aside0 (kq≤kj1)∧Drawn0 w w')
        case atStart=> exact⟨(0),My.q0,H',⟨Nat.le_refl _⟩,My.dD⟩
        case round=>
          clear H';(repeat first|clear c1|clear p2|clear c3|clear c3b0|clear c3b1|clear c4|clear p2);obtain⟨x3_2,rfl,HA,HK2,⟨m2,rfl⟩⟩:=hrel
          cases gk with
          |zero=> exact absurd HA.out (by simp [batonref02_Check.l0])
          |succ k2=>
            have H:=HA.out;clear HA;simp only [batonref02_Check.l0] at H
            by_cases c5:x3_2 < (a0.size:Int)
            · rw [if_pos c5] at H
              have c5b0:=decide_eq_true c5;clear c5
              by_cases c6:0≤x3_2
              · rw [if_pos c6] at H
                have c6b0:=decide_eq_true c6;clear c6
                by_cases c8:(bt a0 x3_2) < 33
                · rw [if_pos c8] at H
                  have c8b0:=decide_eq_true c8;clear c8;obtain rfl:=Option.some.inj H;have p7:0≤(x3_2:Int):=of_decide_eq_true My.as;have q7:x3_2 < (a0.size:Int):=of_decide_eq_true My.as;have hx7:=bt_at a0 x3_2;replace p7:=eq_true p7;replace q7:=eq_true q7
                  go_wp2
                  go_ret
                  exact⟨My.q0,My.dD⟩
                · rw [if_neg c8] at H
                  have c8b0:=decide_eq_false c8;clear c8
                  by_cases c10:(bt a0 x3_2) > 126
                  · rw [if_pos c10] at H
                    have c10b0:=decide_eq_true c10;clear c10;obtain rfl:=Option.some.inj H;have p7:0≤(x3_2:Int):=of_decide_eq_true My.as;have q7:x3_2 < (a0.size:Int):=of_decide_eq_true My.as;have hx7:=bt_at a0 x3_2;replace p7:=eq_true p7;replace q7:=eq_true q7;have p9:0≤(x3_2:Int):=of_decide_eq_true My.as;have q9:x3_2 < (a0.size:Int):=of_decide_eq_true My.as;have hx9:=bt_at a0 x3_2;replace p9:=eq_true p9;replace q9:=eq_true q9
                    go_wp2
                    go_ret
                    exact⟨My.q0,My.dD⟩
                  · rw [if_neg c10] at H
                    have c10b0:=decide_eq_false c10;clear c10;have H':=Aside0.mk H;clear H;have p7:0≤(x3_2:Int):=of_decide_eq_true My.as;have q7:x3_2 < (a0.size:Int):=of_decide_eq_true My.as;have hx7:=bt_at a0 x3_2;replace p7:=eq_true p7;replace q7:=eq_true q7;have p9:0≤(x3_2:Int):=of_decide_eq_true My.as;have q9:x3_2 < (a0.size:Int):=of_decide_eq_true My.as;have hx9:=bt_at a0 x3_2;replace p9:=eq_true p9;replace q9:=eq_true q9
                    go_wp2
                    go_roundg k2
                    case measure=> have:=HJ1.out;have:=HK2.out;omega
                    case rel=> exact⟨(wrap64 (x3_2 + 1)),My.q0,H',⟨by have:=HJ1.out;have:=HK2.out;omega⟩,My.dD⟩
              · exact My.no c6 H
            · rw [if_neg c5] at H
              have c5b0:=decide_eq_false c5;clear c5;obtain rfl:=Option.some.inj H
              go_wp2
              go_ret
              exact⟨My.q0,My.dD⟩

/-! ### batonref04_One: function 55 -/
def batonref04_One.f (k:Nat) (a0_0:ByteArray) (a0_1:ByteArray) (a0_2:Int) (a0_3:Int) (a0_4:Int) (a0_5:Int):Option (Bool):=(batonref02_Check.f k a0_0).bind fun t638=> (if t638=true then (if (a0_1.size:Int) > 20 then (some false) else (if a0_2 < 1 then (some false) else (if a0_2 > 1099511627775 then (some false) else (if a0_3≥a0_2 then (if a0_3≤1099511627775 then (if a0_4≥1 then (if a0_4≤(wrap64 ((wrap64 (a0_3 - a0_2)) + 1)) then (if a0_5≥0 then (some (decide (a0_5≤1099511627775))) else (some false)) else (some false)) else (some false)) else (some false)) else (some false))))) else (some false))
theorem batonref04_One.mono:∀a0 a1 a2 a3 a4 a5 k,LeO (batonref04_One.f k a0 a1 a2 a3 a4 a5) (batonref04_One.f (k + 1) a0 a1 a2 a3 a4 a5):=by
 intro a0 a1 a2 a3 a4 a5 k
 unfold batonref04_One.f
 have ic0:= @batonref02_Check.mono;exact My.mono_
set_option maxHeartbeats 80000000 in
set_option maxRecDepth 100000 in
theorem batonref04_One.calls (k:Nat) (a0_0:ByteArray) (a0_1:ByteArray) (a0_2:Int) (a0_3:Int) (a0_4:Int) (a0_5:Int) (r:Bool) (w:World) (h:batonref04_One.f k a0_0 a0_1 a0_2 a0_3 a0_4 a0_5=some r):
  Calls Try.prog 55 #[.agg #[.string a0_0,.string a0_1,.int .i64 a0_2,.int .i64 a0_3,.int .i64 a0_4,.int .i64 a0_5]] w fun e w'=> e= .returned (.bool r)∧Below w.heap.size w w':=by
 have hu26:=Try.underlying26;have HB:=My.m (Below.refl w.heap.size w);have H:=h;clear h;unfold batonref04_One.f at H;replace H:=Option.bind_eq_some_iff.mp H;obtain⟨t638,A20,H⟩:=H;have A2:=Aside0.mk A20;clear A20
 by_cases c3:t638=true
 ·subst c3
  rw [if_pos rfl] at H
  by_cases c4:(a0_1.size:Int) > 20
  ·rw [if_pos c4] at H
   have c4b0:=decide_eq_true c4;have c4b1:decide (20 < a0_1.size)=true:=decide_eq_true (by omega);clear c4;obtain rfl:=Option.some.inj H
   go_enter Try.func55,Try.ntmps55
   go_wp2_with (first|((with_reducible refine gate_dst (N:=1) rfl ?_);(try(refine gate_guard (by rfl) ?_;dsimp only));refine My.be 1 26 #[.string a0_0,.string a0_1,.int .i64 a0_2,.int .i64 a0_3,.int .i64 a0_4,.int .i64 a0_5] ?_;intro gb637 hg w5 hbox hb;have BK637:=My.m hbox;have GW637:=My.m ((My.nw w hg My.bB));have GE637:=My.m ((My.nw w hg My.bB));replace HB:=My.m (below_step My.bB hb);clear hb hbox hg;obtain⟨_,_,_,_,_,_⟩:=My.qc6 BK637.out;obtain⟨_,_,_,_,_,_⟩:=My.qf6 BK637.out)|((with_reducible refine gate_callee (f:=66) rfl ?_);refine goesL_ (some 5) rfl rfl Try.func66 (by kernel_rfl) rfl #[.string a0_0] rfl My.ar ?_;(with_reducible refine(batonref02_Check.calls k a0_0 true _ A2.out).mono ?_);rintro e w' ⟨rfl,⟨nd,rfl⟩⟩;refine⟨_,rfl,?_⟩))
   go_ret
   exact⟨My.q1,My.bA⟩
  ·rw [if_neg c4] at H
   have c4b0:=decide_eq_false c4;have c4b1:decide (20 < a0_1.size)=false:=decide_eq_false (by omega);clear c4
   by_cases c7:a0_2 < 1
   ·rw [if_pos c7] at H
    have c7b0:=decide_eq_true c7;clear c7;obtain rfl:=Option.some.inj H
    go_enter Try.func55,Try.ntmps55
    go_wp2_with (first|((with_reducible refine gate_dst (N:=1) rfl ?_);(try(refine gate_guard (by rfl) ?_;dsimp only));refine My.be 1 26 #[.string a0_0,.string a0_1,.int .i64 a0_2,.int .i64 a0_3,.int .i64 a0_4,.int .i64 a0_5] ?_;intro gb637 hg w8 hbox hb;have BK637:=My.m hbox;have GW637:=My.m ((My.nw w hg My.bB));have GE637:=My.m ((My.nw w hg My.bB));replace HB:=My.m (below_step My.bB hb);clear hb hbox hg;obtain⟨_,_,_,_,_,_⟩:=My.qc6 BK637.out;obtain⟨_,_,_,_,_,_⟩:=My.qf6 BK637.out)|((with_reducible refine gate_callee (f:=66) rfl ?_);refine goesL_ (some 5) rfl rfl Try.func66 (by kernel_rfl) rfl #[.string a0_0] rfl My.ar ?_;(with_reducible refine(batonref02_Check.calls k a0_0 true _ A2.out).mono ?_);rintro e w' ⟨rfl,⟨nd,rfl⟩⟩;refine⟨_,rfl,?_⟩))
    go_ret
    exact⟨My.q1,My.bA⟩
   ·rw [if_neg c7] at H
    have c7b0:=decide_eq_false c7;clear c7
    by_cases c10:a0_2 > 1099511627775
    ·rw [if_pos c10] at H
     have c10b0:=decide_eq_true c10;clear c10;obtain rfl:=Option.some.inj H
     go_enter Try.func55,Try.ntmps55
     go_wp2_with (first|((with_reducible refine gate_dst (N:=1) rfl ?_);(try(refine gate_guard (by rfl) ?_;dsimp only));refine My.be 1 26 #[.string a0_0,.string a0_1,.int .i64 a0_2,.int .i64 a0_3,.int .i64 a0_4,.int .i64 a0_5] ?_;intro gb637 hg w11 hbox hb;have BK637:=My.m hbox;have GW637:=My.m ((My.nw w hg My.bB));have GE637:=My.m ((My.nw w hg My.bB));replace HB:=My.m (below_step My.bB hb);clear hb hbox hg;obtain⟨_,_,_,_,_,_⟩:=My.qc6 BK637.out;obtain⟨_,_,_,_,_,_⟩:=My.qf6 BK637.out)|((with_reducible refine gate_callee (f:=66) rfl ?_);refine goesL_ (some 5) rfl rfl Try.func66 (by kernel_rfl) rfl #[.string a0_0] rfl My.ar ?_;(with_reducible refine(batonref02_Check.calls k a0_0 true _ A2.out).mono ?_);rintro e w' ⟨rfl,⟨nd,rfl⟩⟩;refine⟨_,rfl,?_⟩))
     go_ret
     exact⟨My.q1,My.bA⟩
    ·rw [if_neg c10] at H
     have c10b0:=decide_eq_false c10;clear c10
     by_cases c13:a0_3≥a0_2
     ·rw [if_pos c13] at H
      have c13b0:=decide_eq_true c13;clear c13
      by_cases c14:a0_3≤1099511627775
      ·rw [if_pos c14] at H
       have c14b0:=decide_eq_true c14;clear c14
       by_cases c15:a0_4≥1
       ·rw [if_pos c15] at H
        have c15b0:=decide_eq_true c15;clear c15
        by_cases c16:a0_4≤(wrap64 ((wrap64 (a0_3 - a0_2)) + 1))
        ·rw [if_pos c16] at H
         have c16b0:=decide_eq_true c16;clear c16
         by_cases c17:a0_5≥0
         ·rw [if_pos c17] at H
          have c17b0:=decide_eq_true c17;clear c17;obtain rfl:=Option.some.inj H
          go_enter Try.func55,Try.ntmps55
          go_wp2_with (first|((with_reducible refine gate_dst (N:=1) rfl ?_);(try(refine gate_guard (by rfl) ?_;dsimp only));refine My.be 1 26 #[.string a0_0,.string a0_1,.int .i64 a0_2,.int .i64 a0_3,.int .i64 a0_4,.int .i64 a0_5] ?_;intro gb637 hg w18 hbox hb;have BK637:=My.m hbox;have GW637:=My.m ((My.nw w hg My.bB));have GE637:=My.m ((My.nw w hg My.bB));replace HB:=My.m (below_step My.bB hb);clear hb hbox hg;obtain⟨_,_,_,_,_,_⟩:=My.qc6 BK637.out;obtain⟨_,_,_,_,_,_⟩:=My.qf6 BK637.out)|((with_reducible refine gate_callee (f:=66) rfl ?_);refine goesL_ (some 5) rfl rfl Try.func66 (by kernel_rfl) rfl #[.string a0_0] rfl My.ar ?_;(with_reducible refine(batonref02_Check.calls k a0_0 true _ A2.out).mono ?_);rintro e w' ⟨rfl,⟨nd,rfl⟩⟩;refine⟨_,rfl,?_⟩))
          go_ret
          exact⟨My.q1,My.bA⟩
         ·rw [if_neg c17] at H
          have c17b0:=decide_eq_false c17;clear c17;obtain rfl:=Option.some.inj H
          go_enter Try.func55,Try.ntmps55
          go_wp2_with (first|((with_reducible refine gate_dst (N:=1) rfl ?_);(try(refine gate_guard (by rfl) ?_;dsimp only));refine My.be 1 26 #[.string a0_0,.string a0_1,.int .i64 a0_2,.int .i64 a0_3,.int .i64 a0_4,.int .i64 a0_5] ?_;intro gb637 hg w20 hbox hb;have BK637:=My.m hbox;have GW637:=My.m ((My.nw w hg My.bB));have GE637:=My.m ((My.nw w hg My.bB));replace HB:=My.m (below_step My.bB hb);clear hb hbox hg;obtain⟨_,_,_,_,_,_⟩:=My.qc6 BK637.out;obtain⟨_,_,_,_,_,_⟩:=My.qf6 BK637.out)|((with_reducible refine gate_callee (f:=66) rfl ?_);refine goesL_ (some 5) rfl rfl Try.func66 (by kernel_rfl) rfl #[.string a0_0] rfl My.ar ?_;(with_reducible refine(batonref02_Check.calls k a0_0 true _ A2.out).mono ?_);rintro e w' ⟨rfl,⟨nd,rfl⟩⟩;refine⟨_,rfl,?_⟩))
          go_ret
          exact⟨My.q1,My.bA⟩
        ·rw [if_neg c16] at H
         have c16b0:=decide_eq_false c16;clear c16;obtain rfl:=Option.some.inj H
         go_enter Try.func55,Try.ntmps55
         go_wp2_with (first|((with_reducible refine gate_dst (N:=1) rfl ?_);(try(refine gate_guard (by rfl) ?_;dsimp only));refine My.be 1 26 #[.string a0_0,.string a0_1,.int .i64 a0_2,.int .i64 a0_3,.int .i64 a0_4,.int .i64 a0_5] ?_;intro gb637 hg w22 hbox hb;have BK637:=My.m hbox;have GW637:=My.m ((My.nw w hg My.bB));have GE637:=My.m ((My.nw w hg My.bB));replace HB:=My.m (below_step My.bB hb);clear hb hbox hg;obtain⟨_,_,_,_,_,_⟩:=My.qc6 BK637.out;obtain⟨_,_,_,_,_,_⟩:=My.qf6 BK637.out)|((with_reducible refine gate_callee (f:=66) rfl ?_);refine goesL_ (some 5) rfl rfl Try.func66 (by kernel_rfl) rfl #[.string a0_0] rfl My.ar ?_;(with_reducible refine(batonref02_Check.calls k a0_0 true _ A2.out).mono ?_);rintro e w' ⟨rfl,⟨nd,rfl⟩⟩;refine⟨_,rfl,?_⟩))
         go_ret
         exact⟨My.q1,My.bA⟩
       ·rw [if_neg c15] at H
        have c15b0:=decide_eq_false c15;clear c15;obtain rfl:=Option.some.inj H
        go_enter Try.func55,Try.ntmps55
        go_wp2_with (first|((with_reducible refine gate_dst (N:=1) rfl ?_);(try(refine gate_guard (by rfl) ?_;dsimp only));refine My.be 1 26 #[.string a0_0,.string a0_1,.int .i64 a0_2,.int .i64 a0_3,.int .i64 a0_4,.int .i64 a0_5] ?_;intro gb637 hg w24 hbox hb;have BK637:=My.m hbox;have GW637:=My.m ((My.nw w hg My.bB));have GE637:=My.m ((My.nw w hg My.bB));replace HB:=My.m (below_step My.bB hb);clear hb hbox hg;obtain⟨_,_,_,_,_,_⟩:=My.qc6 BK637.out;obtain⟨_,_,_,_,_,_⟩:=My.qf6 BK637.out)|((with_reducible refine gate_callee (f:=66) rfl ?_);refine goesL_ (some 5) rfl rfl Try.func66 (by kernel_rfl) rfl #[.string a0_0] rfl My.ar ?_;(with_reducible refine(batonref02_Check.calls k a0_0 true _ A2.out).mono ?_);rintro e w' ⟨rfl,⟨nd,rfl⟩⟩;refine⟨_,rfl,?_⟩))
        go_ret
        exact⟨My.q1,My.bA⟩
      ·rw [if_neg c14] at H
       have c14b0:=decide_eq_false c14;clear c14;obtain rfl:=Option.some.inj H
       go_enter Try.func55,Try.ntmps55
       go_wp2_with (first|((with_reducible refine gate_dst (N:=1) rfl ?_);(try(refine gate_guard (by rfl) ?_;dsimp only));refine My.be 1 26 #[.string a0_0,.string a0_1,.int .i64 a0_2,.int .i64 a0_3,.int .i64 a0_4,.int .i64 a0_5] ?_;intro gb637 hg w26 hbox hb;have BK637:=My.m hbox;have GW637:=My.m ((My.nw w hg My.bB));have GE637:=My.m ((My.nw w hg My.bB));replace HB:=My.m (below_step My.bB hb);clear hb hbox hg;obtain⟨_,_,_,_,_,_⟩:=My.qc6 BK637.out;obtain⟨_,_,_,_,_,_⟩:=My.qf6 BK637.out)|((with_reducible refine gate_callee (f:=66) rfl ?_);refine goesL_ (some 5) rfl rfl Try.func66 (by kernel_rfl) rfl #[.string a0_0] rfl My.ar ?_;(with_reducible refine(batonref02_Check.calls k a0_0 true _ A2.out).mono ?_);rintro e w' ⟨rfl,⟨nd,rfl⟩⟩;refine⟨_,rfl,?_⟩))
       go_ret
       exact⟨My.q1,My.bA⟩
     ·rw [if_neg c13] at H
      have c13b0:=decide_eq_false c13;clear c13;obtain rfl:=Option.some.inj H
      go_enter Try.func55,Try.ntmps55
      go_wp2_with (first|((with_reducible refine gate_dst (N:=1) rfl ?_);(try(refine gate_guard (by rfl) ?_;dsimp only));refine My.be 1 26 #[.string a0_0,.string a0_1,.int .i64 a0_2,.int .i64 a0_3,.int .i64 a0_4,.int .i64 a0_5] ?_;intro gb637 hg w28 hbox hb;have BK637:=My.m hbox;have GW637:=My.m ((My.nw w hg My.bB));have GE637:=My.m ((My.nw w hg My.bB));replace HB:=My.m (below_step My.bB hb);clear hb hbox hg;obtain⟨_,_,_,_,_,_⟩:=My.qc6 BK637.out;obtain⟨_,_,_,_,_,_⟩:=My.qf6 BK637.out)|((with_reducible refine gate_callee (f:=66) rfl ?_);refine goesL_ (some 5) rfl rfl Try.func66 (by kernel_rfl) rfl #[.string a0_0] rfl My.ar ?_;(with_reducible refine(batonref02_Check.calls k a0_0 true _ A2.out).mono ?_);rintro e w' ⟨rfl,⟨nd,rfl⟩⟩;refine⟨_,rfl,?_⟩))
      go_ret
      exact⟨My.q1,My.bA⟩
 ·replace c3:=Bool.eq_false_iff.mpr c3
  subst c3;rw [if_neg (show¬(false=true) by decide)] at H;obtain rfl:=Option.some.inj H
  go_enter Try.func55,Try.ntmps55
  go_wp2_with (first|((with_reducible refine gate_dst (N:=1) rfl ?_);(try(refine gate_guard (by rfl) ?_;dsimp only));refine My.be 1 26 #[.string a0_0,.string a0_1,.int .i64 a0_2,.int .i64 a0_3,.int .i64 a0_4,.int .i64 a0_5] ?_;intro gb637 hg w30 hbox hb;have BK637:=My.m hbox;have GW637:=My.m ((My.nw w hg My.bB));have GE637:=My.m ((My.nw w hg My.bB));replace HB:=My.m (below_step My.bB hb);clear hb hbox hg;obtain⟨_,_,_,_,_,_⟩:=My.qc6 BK637.out;obtain⟨_,_,_,_,_,_⟩:=My.qf6 BK637.out)|((with_reducible refine gate_callee (f:=66) rfl ?_);refine goesL_ (some 5) rfl rfl Try.func66 (by kernel_rfl) rfl #[.string a0_0] rfl My.ar ?_;(with_reducible refine(batonref02_Check.calls k a0_0 false _ A2.out).mono ?_);rintro e w' ⟨rfl,⟨nd,rfl⟩⟩;refine⟨_,rfl,?_⟩))
  go_ret
  exact⟨My.q1,My.bA⟩

/-! ### batonref04_May: function 41 -/
def batonref04_May.l0:Nat→List (S26)→Int→Option (Bool)
 |0,_,_=> none
 |k + 1,x0,x3=> if x3 < (x0.length:Int) then (if 0≤x3 then ((batonref04_One.f k ((rd_T26 x0 x3).f0) ((rd_T26 x0 x3).f1) ((rd_T26 x0 x3).f2) ((rd_T26 x0 x3).f3) ((rd_T26 x0 x3).f4) ((rd_T26 x0 x3).f5)).bind fun t640=> (if t640=true then (if x3 > 0 then (if 0≤(wrap64 (x3 - 1)) then (if (wrap64 (x3 - 1)) < (x0.length:Int) then (if ((Op.bytesLess (((rd_T26 x0 (wrap64 (x3 - 1))).f0).toList) (((rd_T26 x0 x3).f0).toList))=true) then (batonref04_May.l0 k x0 (wrap64 (x3 + 1))) else (some false)) else (none)) else (none)) else (batonref04_May.l0 k x0 (wrap64 (x3 + 1)))) else (some false))) else (none)) else (some true)
def batonref04_May.f (k:Nat) (l0:List (S26)):Option (Bool):=batonref04_May.l0 k l0 0
theorem batonref04_May.mono_l:∀k,(∀y0 y1,LeO (batonref04_May.l0 k y0 y1) (batonref04_May.l0 (k + 1) y0 y1))
 |0=> fun _ _ r h=> by simp [batonref04_May.l0] at h
 |k + 1=> by
  have ih0:=batonref04_May.mono_l k
  ·intro y0 y1
   unfold batonref04_May.l0
   have ic0:= @batonref04_One.mono;exact My.mono_
theorem batonref04_May.mono:∀a0 k,LeO (batonref04_May.f k a0) (batonref04_May.f (k + 1) a0):=by
 intro a0 k
 have ih0:=batonref04_May.mono_l k
 unfold batonref04_May.f
 have ic0:= @batonref04_One.mono;exact My.mono_
def batonref04_May.T4:Bool×List (List Nat×List Nat):=(true,[([],[]),([],[]),([0,1],[0,1]),([2],[2]),([3],[3]),([4],[4]),([5,4],[5]),([6],[6]),([7,6],[6,7]),([8,6,6],[6,8]),([9],[9]),([9],[9]),([11,9],[9,11]),([10,12,9],[9,10,12]),([13,9],[9,13]),([14,9],[9,14]),([9],[9]),([9],[9]),([16,17,9],[9,16,17]),([18,9],[9,18]),([19,9],[9,19]),([15,20,9],[9,15,20]),([9,21,6],[6,9,21]),([6,22],[6,22])])
def batonref04_May.B4:List Nat:= [0,0,3,7,15,31,63,127,255,511,1023,1023,3071,8191,16383,32767,1023,1023,197631,459775,984063,2097151,4194303,8388607]
theorem batonref04_May.tab4:rtab .any (opsOf Try.f41 4)=batonref04_May.T4:=by kernel_rfl
theorem batonref04_May.bits4:waitsOk batonref04_May.T4.2 batonref04_May.B4=true:=by kernel_rfl
set_option maxHeartbeats 80000000 in
set_option maxRecDepth 100000 in
theorem batonref04_May.calls (k:Nat) (A0:Option Addr) (c0:Nat) (l0:List (S26)) (r:Bool) (w:World) (hr0:Kd.C k26 w A0 l0.length l0) (hc0:l0.length≤c0) (h:batonref04_May.f k l0=some r):
  Calls Try.prog 41 #[.slice A0 l0.length c0] w fun e w'=> e= .returned (.bool r)∧Below w.heap.size w w':=by
 have hu26:=Try.underlying26;have HR0:=Aside0.mk hr0;have HC0:=Aside0.mk hc0;clear hr0 hc0;have HB:=My.m (Below.refl w.heap.size w);have H:=h;clear h;unfold batonref04_May.f at H;have H':=Aside0.mk H;clear H
 go_enter Try.func41,Try.ntmps41
 go_wp2
 go_loopg [3] k (fun kq v3 w'=> ∃(x3_1:Int),v3= .int .i64 x3_1∧Aside0 (batonref04_May.l0 kq l0 x3_1=some r)∧Aside0 (kq≤k)∧Aside0 (Below w.heap.size w w'))
 case atStart=> exact⟨(0),My.q0,H',⟨Nat.le_refl _⟩,⟨My.bB⟩⟩
 case round=>
  clear H';obtain⟨x3_1,rfl,HA,HK1,HB⟩:=hrel
  cases gk with
  |zero=> exact absurd HA.out (by simp [batonref04_May.l0])
  |succ k1=>
   have H:=HA.out;clear HA;simp only [batonref04_May.l0] at H
   by_cases c2:x3_1 < (l0.length:Int)
   ·rw [if_pos c2] at H
    have c2b0:=decide_eq_true c2;clear c2
    by_cases c3:0≤x3_1
    ·rw [if_pos c3] at H
     have c3b0:=decide_eq_true c3;clear c3;replace H:=Option.bind_eq_some_iff.mp H;obtain⟨t640,A40,H⟩:=H;have A4:=Aside0.mk A40;clear A40
     by_cases c5:t640=true
     ·subst c5
      rw [if_pos rfl] at H
      by_cases c6:x3_1 > 0
      ·rw [if_pos c6] at H
       have c6b0:=decide_eq_true c6;clear c6;obtain⟨ji7,hji7⟩:∃j_:Int,(wrap64 (x3_1 - 1))=j_:=⟨_,rfl⟩;(replace H:(if 0≤(ji7) then (if (ji7) < (l0.length:Int) then (if ((Op.bytesLess (((rd_T26 l0 (ji7)).f0).toList) (((rd_T26 l0 x3_1).f0).toList))=true) then (batonref04_May.l0 k1 l0 (wrap64 (x3_1 + 1))) else (some false)) else (none)) else (none))=some r:=by first|(rw [hji7] at H;exact H)|(simp only [hji7] at H⊢;exact H));(try rw [hji7] at A4);have hji7w:(IntKind.i64.wrap (x3_1 - 1))=ji7:=(i64_w _).trans hji7
       by_cases c8:0≤(ji7)
       ·rw [if_pos c8] at H
        have c8b0:=decide_eq_true c8;clear c8
        by_cases c9:(ji7) < (l0.length:Int)
        ·rw [if_pos c9] at H
         have c9b0:=decide_eq_true c9;clear c9
         by_cases c10:((Op.bytesLess (((rd_T26 l0 (ji7)).f0).toList) (((rd_T26 l0 x3_1).f0).toList))=true)
         ·rw [if_pos c10] at H
          have c10b0:(Op.bytesLess (((rd_T26 l0 (ji7)).f0).toList) (((rd_T26 l0 x3_1).f0).toList))=true:=c10;clear c10;have H':=Aside0.mk H;clear H;(try go_wp2);replace HB:=My.m (below_drew1 HB.out);have p639:0≤(x3_1:Int):=of_decide_eq_true My.as;have q639:x3_1 < (l0.length:Int):=of_decide_eq_true My.as;obtain⟨ad639,e639,hx639_0,hx639_1,hx639_2,hx639_3,hx639_4,hx639_5⟩:=at_T26 HR0.out x3_1 p639 q639;have hw639_5:=hx639_5;have hw639_4:=hx639_4;have hw639_3:=hx639_3;have hw639_2:=hx639_2;have hw639_1:=hx639_1;have hw639_0:=hx639_0;cases e639;replace hx639_0:=My.up HB.out hx639_0;replace hx639_1:=My.up HB.out hx639_1;replace hx639_2:=My.up HB.out hx639_2;replace hx639_3:=My.up HB.out hx639_3;replace hx639_4:=My.up HB.out hx639_4;replace hx639_5:=My.up HB.out hx639_5;replace p639:=eq_true p639;replace q639:=eq_true q639;have p641:0≤((ji7):Int):=of_decide_eq_true My.as;have q641:(ji7) < (l0.length:Int):=of_decide_eq_true My.as;obtain⟨ad641,e641,hx641_0,hx641_1,hx641_2,hx641_3,hx641_4,hx641_5⟩:=at_T26 HR0.out (ji7) p641 q641;have hw641_5:=hx641_5;have hw641_4:=hx641_4;have hw641_3:=hx641_3;have hw641_2:=hx641_2;have hw641_1:=hx641_1;have hw641_0:=hx641_0;obtain rfl:ad639=ad641:=(by injection e641);replace hx641_0:=My.up HB.out hx641_0;replace hx641_1:=My.up HB.out hx641_1;replace hx641_2:=My.up HB.out hx641_2;replace hx641_3:=My.up HB.out hx641_3;replace hx641_4:=My.up HB.out hx641_4;replace hx641_5:=My.up HB.out hx641_5;replace p641:=eq_true p641;replace q641:=eq_true q641;have p642:0≤(x3_1:Int):=of_decide_eq_true My.as;have q642:x3_1 < (l0.length:Int):=of_decide_eq_true My.as;obtain⟨ad642,e642,hx642_0,hx642_1,hx642_2,hx642_3,hx642_4,hx642_5⟩:=at_T26 HR0.out x3_1 p642 q642;have hw642_5:=hx642_5;have hw642_4:=hx642_4;have hw642_3:=hx642_3;have hw642_2:=hx642_2;have hw642_1:=hx642_1;have hw642_0:=hx642_0;obtain rfl:ad639=ad642:=(by injection e642);replace hx642_0:=My.up HB.out hx642_0;replace hx642_1:=My.up HB.out hx642_1;replace hx642_2:=My.up HB.out hx642_2;replace hx642_3:=My.up HB.out hx642_3;replace hx642_4:=My.up HB.out hx642_4;replace hx642_5:=My.up HB.out hx642_5;replace p642:=eq_true p642;replace q642:=eq_true q642;refine start_ (n:=24) (S:=fun w'=> cT26 w' (ad639.add ((x3_1).toNat * 6)) (rd_T26 l0 x3_1) (cT26 w' (ad639.add (((ji7)).toNat * 6)) (rd_T26 l0 (ji7)) (eT26 w' (ad639.add ((x3_1).toNat * 6)) (rd_T26 l0 x3_1)))) (ds:= []) (My.bl 24 0) (by kernel_rfl) rfl (by kernel_rfl) ⟨(My.uq HB.out hw639_0),(My.uq HB.out hw639_1),(My.uq HB.out hw639_2),(My.uq HB.out hw639_3),(My.uq HB.out hw639_4),(My.uq HB.out hw639_5),(My.uq HB.out hw641_0),(My.uq HB.out hw641_1),(My.uq HB.out hw641_2),(My.uq HB.out hw641_3),(My.uq HB.out hw641_4),(My.uq HB.out hw641_5),(My.uq HB.out hw642_0),(My.uq HB.out hw642_1),(My.uq HB.out hw642_2),(My.uq HB.out hw642_3),(My.uq HB.out hw642_4),(My.uq HB.out hw642_5)⟩ (fun hHeld=> ?_);refine with_tabW batonref04_May.tab4 batonref04_May.bits4 (fun HT_ HW_=> ?_);generalize wr.drew=w11 at HB hx639_0 hx639_1 hx639_2 hx639_3 hx639_4 hx639_5 hx641_0 hx641_1 hx641_2 hx641_3 hx641_4 hx641_5 hx642_0 hx642_1 hx642_2 hx642_3 hx642_4 hx642_5 hHeld⊢;refine My.pu 0 10 1 HT_ ?_;refine My.pu 1 11 3 HT_ ?_;refine My.pu 2 12 7 HT_ ?_;refine My.tk 3 13 15 HT_ HW_ hHeld ?_;refine one_ (i:=4) (N:=some 14) (My.bl 24 31) rfl rfl (one_of HT_.out (by kernel_rfl)) (by decide) (fun K hK=> ?_);refine goes_ Try.func55 (by kernel_rfl) rfl #[.agg #[.string ((rd_T26 l0 x3_1).f0),.string ((rd_T26 l0 x3_1).f1),.int .i64 ((rd_T26 l0 x3_1).f2),.int .i64 ((rd_T26 l0 x3_1).f3),.int .i64 ((rd_T26 l0 x3_1).f4),.int .i64 ((rd_T26 l0 x3_1).f5)]] (by rfl) rfl rfl My.ar ?_;(with_reducible refine(batonref04_One.calls k1 ((rd_T26 l0 x3_1).f0) ((rd_T26 l0 x3_1).f1) ((rd_T26 l0 x3_1).f2) ((rd_T26 l0 x3_1).f3) ((rd_T26 l0 x3_1).f4) ((rd_T26 l0 x3_1).f5) true _ A4.out).mono ?_);rintro e w12 ⟨rfl,hb⟩;refine⟨_,rfl,?_⟩;replace HB:=My.m (below_step My.bB hb);refine hK.out _ _ ⟨(My.uq HB.out hw639_0),(My.uq HB.out hw639_1),(My.uq HB.out hw639_2),(My.uq HB.out hw639_3),(My.uq HB.out hw639_4),(My.uq HB.out hw639_5),(My.uq HB.out hw641_0),(My.uq HB.out hw641_1),(My.uq HB.out hw641_2),(My.uq HB.out hw641_3),(My.uq HB.out hw641_4),(My.uq HB.out hw641_5),(My.uq HB.out hw642_0),(My.uq HB.out hw642_1),(My.uq HB.out hw642_2),(My.uq HB.out hw642_3),(My.uq HB.out hw642_4),(My.uq HB.out hw642_5)⟩ (fun hHeld=> ?_);clear hK K;refine norm_ (a':= ?_) ?_ ?_;rotate_left
          ·show Act.put _ (some 14) _=_
           simp only [Act.put,List.setIfInBounds_toArray,List.set_cons_zero,List.set_cons_succ,i64_w,i32_w];rfl
          refine My.pu 5 15 63 HT_ ?_;refine My.pu 6 16 127 HT_ ?_;refine My.pu 7 17 255 HT_ ?_;refine My.pu 8 18 511 HT_ ?_;refine My.pu 9 19 1023 HT_ ?_;refine My.pu 10 20 2047 HT_ ?_;refine My.pu 11 21 4095 HT_ ?_;refine My.pu 12 22 8191 HT_ ?_;refine My.pu 13 23 16383 HT_ ?_;refine My.pu 14 24 32767 HT_ ?_;refine My.pu 16 26 98303 HT_ ?_;refine My.pu 17 27 229375 HT_ ?_;refine My.pu 18 28 491519 HT_ ?_;refine My.pu 19 29 1015807 HT_ ?_;refine My.tk 15 25 1048575 HT_ HW_ hHeld ?_;refine My.tk 20 30 2097151 HT_ HW_ hHeld ?_;refine My.pu 21 31 4194303 HT_ ?_;refine My.pu 22 32 8388607 HT_ ?_;refine My.pu 23 33 16777215 HT_ ?_;refine done_ (done_of HT_.out (by kernel_rfl)) ?_;(try go_wp2)
          go_roundg k1
          case measure=> have:=HK1.out;omega
          case rel=> exact⟨(wrap64 (x3_1 + 1)),My.q0,H',⟨by have:=HK1.out;omega⟩,⟨My.bB⟩⟩
         ·rw [if_neg c10] at H
          (have c10b0:(Op.bytesLess (((rd_T26 l0 (ji7)).f0).toList) (((rd_T26 l0 x3_1).f0).toList))=false:=by simpa using c10);clear c10;obtain rfl:=Option.some.inj H;(try go_wp2);replace HB:=My.m (below_drew1 HB.out);have p639:0≤(x3_1:Int):=of_decide_eq_true My.as;have q639:x3_1 < (l0.length:Int):=of_decide_eq_true My.as;obtain⟨ad639,e639,hx639_0,hx639_1,hx639_2,hx639_3,hx639_4,hx639_5⟩:=at_T26 HR0.out x3_1 p639 q639;have hw639_5:=hx639_5;have hw639_4:=hx639_4;have hw639_3:=hx639_3;have hw639_2:=hx639_2;have hw639_1:=hx639_1;have hw639_0:=hx639_0;cases e639;replace hx639_0:=My.up HB.out hx639_0;replace hx639_1:=My.up HB.out hx639_1;replace hx639_2:=My.up HB.out hx639_2;replace hx639_3:=My.up HB.out hx639_3;replace hx639_4:=My.up HB.out hx639_4;replace hx639_5:=My.up HB.out hx639_5;replace p639:=eq_true p639;replace q639:=eq_true q639;have p641:0≤((ji7):Int):=of_decide_eq_true My.as;have q641:(ji7) < (l0.length:Int):=of_decide_eq_true My.as;obtain⟨ad641,e641,hx641_0,hx641_1,hx641_2,hx641_3,hx641_4,hx641_5⟩:=at_T26 HR0.out (ji7) p641 q641;have hw641_5:=hx641_5;have hw641_4:=hx641_4;have hw641_3:=hx641_3;have hw641_2:=hx641_2;have hw641_1:=hx641_1;have hw641_0:=hx641_0;obtain rfl:ad639=ad641:=(by injection e641);replace hx641_0:=My.up HB.out hx641_0;replace hx641_1:=My.up HB.out hx641_1;replace hx641_2:=My.up HB.out hx641_2;replace hx641_3:=My.up HB.out hx641_3;replace hx641_4:=My.up HB.out hx641_4;replace hx641_5:=My.up HB.out hx641_5;replace p641:=eq_true p641;replace q641:=eq_true q641;have p642:0≤(x3_1:Int):=of_decide_eq_true My.as;have q642:x3_1 < (l0.length:Int):=of_decide_eq_true My.as;obtain⟨ad642,e642,hx642_0,hx642_1,hx642_2,hx642_3,hx642_4,hx642_5⟩:=at_T26 HR0.out x3_1 p642 q642;have hw642_5:=hx642_5;have hw642_4:=hx642_4;have hw642_3:=hx642_3;have hw642_2:=hx642_2;have hw642_1:=hx642_1;have hw642_0:=hx642_0;obtain rfl:ad639=ad642:=(by injection e642);replace hx642_0:=My.up HB.out hx642_0;replace hx642_1:=My.up HB.out hx642_1;replace hx642_2:=My.up HB.out hx642_2;replace hx642_3:=My.up HB.out hx642_3;replace hx642_4:=My.up HB.out hx642_4;replace hx642_5:=My.up HB.out hx642_5;replace p642:=eq_true p642;replace q642:=eq_true q642;refine start_ (n:=24) (S:=fun w'=> cT26 w' (ad639.add ((x3_1).toNat * 6)) (rd_T26 l0 x3_1) (cT26 w' (ad639.add (((ji7)).toNat * 6)) (rd_T26 l0 (ji7)) (eT26 w' (ad639.add ((x3_1).toNat * 6)) (rd_T26 l0 x3_1)))) (ds:= []) (My.bl 24 0) (by kernel_rfl) rfl (by kernel_rfl) ⟨(My.uq HB.out hw639_0),(My.uq HB.out hw639_1),(My.uq HB.out hw639_2),(My.uq HB.out hw639_3),(My.uq HB.out hw639_4),(My.uq HB.out hw639_5),(My.uq HB.out hw641_0),(My.uq HB.out hw641_1),(My.uq HB.out hw641_2),(My.uq HB.out hw641_3),(My.uq HB.out hw641_4),(My.uq HB.out hw641_5),(My.uq HB.out hw642_0),(My.uq HB.out hw642_1),(My.uq HB.out hw642_2),(My.uq HB.out hw642_3),(My.uq HB.out hw642_4),(My.uq HB.out hw642_5)⟩ (fun hHeld=> ?_);refine with_tabW batonref04_May.tab4 batonref04_May.bits4 (fun HT_ HW_=> ?_);generalize wr.drew=w13 at HB hx639_0 hx639_1 hx639_2 hx639_3 hx639_4 hx639_5 hx641_0 hx641_1 hx641_2 hx641_3 hx641_4 hx641_5 hx642_0 hx642_1 hx642_2 hx642_3 hx642_4 hx642_5 hHeld⊢;refine My.pu 0 10 1 HT_ ?_;refine My.pu 1 11 3 HT_ ?_;refine My.pu 2 12 7 HT_ ?_;refine My.tk 3 13 15 HT_ HW_ hHeld ?_;refine one_ (i:=4) (N:=some 14) (My.bl 24 31) rfl rfl (one_of HT_.out (by kernel_rfl)) (by decide) (fun K hK=> ?_);refine goes_ Try.func55 (by kernel_rfl) rfl #[.agg #[.string ((rd_T26 l0 x3_1).f0),.string ((rd_T26 l0 x3_1).f1),.int .i64 ((rd_T26 l0 x3_1).f2),.int .i64 ((rd_T26 l0 x3_1).f3),.int .i64 ((rd_T26 l0 x3_1).f4),.int .i64 ((rd_T26 l0 x3_1).f5)]] (by rfl) rfl rfl My.ar ?_;(with_reducible refine(batonref04_One.calls k1 ((rd_T26 l0 x3_1).f0) ((rd_T26 l0 x3_1).f1) ((rd_T26 l0 x3_1).f2) ((rd_T26 l0 x3_1).f3) ((rd_T26 l0 x3_1).f4) ((rd_T26 l0 x3_1).f5) true _ A4.out).mono ?_);rintro e w14 ⟨rfl,hb⟩;refine⟨_,rfl,?_⟩;replace HB:=My.m (below_step My.bB hb);refine hK.out _ _ ⟨(My.uq HB.out hw639_0),(My.uq HB.out hw639_1),(My.uq HB.out hw639_2),(My.uq HB.out hw639_3),(My.uq HB.out hw639_4),(My.uq HB.out hw639_5),(My.uq HB.out hw641_0),(My.uq HB.out hw641_1),(My.uq HB.out hw641_2),(My.uq HB.out hw641_3),(My.uq HB.out hw641_4),(My.uq HB.out hw641_5),(My.uq HB.out hw642_0),(My.uq HB.out hw642_1),(My.uq HB.out hw642_2),(My.uq HB.out hw642_3),(My.uq HB.out hw642_4),(My.uq HB.out hw642_5)⟩ (fun hHeld=> ?_);clear hK K;refine norm_ (a':= ?_) ?_ ?_;rotate_left
          ·show Act.put _ (some 14) _=_
           simp only [Act.put,List.setIfInBounds_toArray,List.set_cons_zero,List.set_cons_succ,i64_w,i32_w];rfl
          refine My.pu 5 15 63 HT_ ?_;refine My.pu 6 16 127 HT_ ?_;refine My.pu 7 17 255 HT_ ?_;refine My.pu 8 18 511 HT_ ?_;refine My.pu 9 19 1023 HT_ ?_;refine My.pu 10 20 2047 HT_ ?_;refine My.pu 11 21 4095 HT_ ?_;refine My.pu 12 22 8191 HT_ ?_;refine My.pu 13 23 16383 HT_ ?_;refine My.pu 14 24 32767 HT_ ?_;refine My.pu 16 26 98303 HT_ ?_;refine My.pu 17 27 229375 HT_ ?_;refine My.pu 18 28 491519 HT_ ?_;refine My.pu 19 29 1015807 HT_ ?_;refine My.tk 15 25 1048575 HT_ HW_ hHeld ?_;refine My.tk 20 30 2097151 HT_ HW_ hHeld ?_;refine My.pu 21 31 4194303 HT_ ?_;refine My.pu 22 32 8388607 HT_ ?_;refine My.pu 23 33 16777215 HT_ ?_;refine done_ (done_of HT_.out (by kernel_rfl)) ?_;(try go_wp2)
          go_ret
          exact⟨by first|rfl|(simp [errW_none,errW_some] <;> rfl)|(simp only [←hji7];first|rfl|(simp [errW_none,errW_some] <;> rfl))|(simp [*,errW_none,errW_some] <;> rfl),My.bB⟩
        ·exact My.no c9 H
       ·exact My.no c8 H
      ·rw [if_neg c6] at H
       have c6b0:=decide_eq_false c6;clear c6;have H':=Aside0.mk H;clear H;(try go_wp2);replace HB:=My.m (below_drew1 HB.out);have p639:0≤(x3_1:Int):=of_decide_eq_true My.as;have q639:x3_1 < (l0.length:Int):=of_decide_eq_true My.as;obtain⟨ad639,e639,hx639_0,hx639_1,hx639_2,hx639_3,hx639_4,hx639_5⟩:=at_T26 HR0.out x3_1 p639 q639;have hw639_5:=hx639_5;have hw639_4:=hx639_4;have hw639_3:=hx639_3;have hw639_2:=hx639_2;have hw639_1:=hx639_1;have hw639_0:=hx639_0;cases e639;replace hx639_0:=My.up HB.out hx639_0;replace hx639_1:=My.up HB.out hx639_1;replace hx639_2:=My.up HB.out hx639_2;replace hx639_3:=My.up HB.out hx639_3;replace hx639_4:=My.up HB.out hx639_4;replace hx639_5:=My.up HB.out hx639_5;replace p639:=eq_true p639;replace q639:=eq_true q639;refine start_ (n:=24) (S:=fun w'=> eT26 w' (ad639.add ((x3_1).toNat * 6)) (rd_T26 l0 x3_1)) (ds:= []) (My.bl 24 0) (by kernel_rfl) rfl (by kernel_rfl) ⟨(My.uq HB.out hw639_0),(My.uq HB.out hw639_1),(My.uq HB.out hw639_2),(My.uq HB.out hw639_3),(My.uq HB.out hw639_4),(My.uq HB.out hw639_5)⟩ (fun hHeld=> ?_);refine with_tabW batonref04_May.tab4 batonref04_May.bits4 (fun HT_ HW_=> ?_);generalize wr.drew=w15 at HB hx639_0 hx639_1 hx639_2 hx639_3 hx639_4 hx639_5 hHeld⊢;refine My.pu 0 10 1 HT_ ?_;refine My.pu 1 11 3 HT_ ?_;refine My.pu 2 12 7 HT_ ?_;refine My.tk 3 13 15 HT_ HW_ hHeld ?_;refine one_ (i:=4) (N:=some 14) (My.bl 24 31) rfl rfl (one_of HT_.out (by kernel_rfl)) (by decide) (fun K hK=> ?_);refine goes_ Try.func55 (by kernel_rfl) rfl #[.agg #[.string ((rd_T26 l0 x3_1).f0),.string ((rd_T26 l0 x3_1).f1),.int .i64 ((rd_T26 l0 x3_1).f2),.int .i64 ((rd_T26 l0 x3_1).f3),.int .i64 ((rd_T26 l0 x3_1).f4),.int .i64 ((rd_T26 l0 x3_1).f5)]] (by rfl) rfl rfl My.ar ?_;(with_reducible refine(batonref04_One.calls k1 ((rd_T26 l0 x3_1).f0) ((rd_T26 l0 x3_1).f1) ((rd_T26 l0 x3_1).f2) ((rd_T26 l0 x3_1).f3) ((rd_T26 l0 x3_1).f4) ((rd_T26 l0 x3_1).f5) true _ A4.out).mono ?_);rintro e w16 ⟨rfl,hb⟩;refine⟨_,rfl,?_⟩;replace HB:=My.m (below_step My.bB hb);refine hK.out _ _ ⟨(My.uq HB.out hw639_0),(My.uq HB.out hw639_1),(My.uq HB.out hw639_2),(My.uq HB.out hw639_3),(My.uq HB.out hw639_4),(My.uq HB.out hw639_5)⟩ (fun hHeld=> ?_);clear hK K;refine norm_ (a':= ?_) ?_ ?_;rotate_left
       ·show Act.put _ (some 14) _=_
        simp only [Act.put,List.setIfInBounds_toArray,List.set_cons_zero,List.set_cons_succ,i64_w,i32_w];rfl
       refine My.pu 5 15 63 HT_ ?_;refine My.pu 6 16 127 HT_ ?_;refine My.pu 7 17 255 HT_ ?_;refine My.pu 8 18 511 HT_ ?_;refine My.pu 9 19 1023 HT_ ?_;refine My.pz 10 20 2047 HT_ ?_;refine My.pz 11 21 4095 HT_ ?_;refine My.pz 12 22 8191 HT_ ?_;refine My.pz 13 23 16383 HT_ ?_;refine My.pz 14 24 32767 HT_ ?_;refine My.pz 15 25 65535 HT_ ?_;refine My.pz 16 26 131071 HT_ ?_;refine My.pz 17 27 262143 HT_ ?_;refine My.pz 18 28 524287 HT_ ?_;refine My.pz 19 29 1048575 HT_ ?_;refine My.pz 20 30 2097151 HT_ ?_;refine My.pz 21 31 4194303 HT_ ?_;refine My.pu 22 32 8388607 HT_ ?_;refine My.pu 23 33 16777215 HT_ ?_;refine done_ (done_of HT_.out (by kernel_rfl)) ?_;(try go_wp2)
       go_roundg k1
       case measure=> have:=HK1.out;omega
       case rel=> exact⟨(wrap64 (x3_1 + 1)),My.q0,H',⟨by have:=HK1.out;omega⟩,⟨My.bB⟩⟩
     ·replace c5:=Bool.eq_false_iff.mpr c5
      subst c5;rw [if_neg (show¬(false=true) by decide)] at H;obtain rfl:=Option.some.inj H;(try go_wp2);replace HB:=My.m (below_drew1 HB.out);have p639:0≤(x3_1:Int):=of_decide_eq_true My.as;have q639:x3_1 < (l0.length:Int):=of_decide_eq_true My.as;obtain⟨ad639,e639,hx639_0,hx639_1,hx639_2,hx639_3,hx639_4,hx639_5⟩:=at_T26 HR0.out x3_1 p639 q639;have hw639_5:=hx639_5;have hw639_4:=hx639_4;have hw639_3:=hx639_3;have hw639_2:=hx639_2;have hw639_1:=hx639_1;have hw639_0:=hx639_0;cases e639;replace hx639_0:=My.up HB.out hx639_0;replace hx639_1:=My.up HB.out hx639_1;replace hx639_2:=My.up HB.out hx639_2;replace hx639_3:=My.up HB.out hx639_3;replace hx639_4:=My.up HB.out hx639_4;replace hx639_5:=My.up HB.out hx639_5;replace p639:=eq_true p639;replace q639:=eq_true q639;refine start_ (n:=24) (S:=fun w'=> eT26 w' (ad639.add ((x3_1).toNat * 6)) (rd_T26 l0 x3_1)) (ds:= []) (My.bl 24 0) (by kernel_rfl) rfl (by kernel_rfl) ⟨(My.uq HB.out hw639_0),(My.uq HB.out hw639_1),(My.uq HB.out hw639_2),(My.uq HB.out hw639_3),(My.uq HB.out hw639_4),(My.uq HB.out hw639_5)⟩ (fun hHeld=> ?_);refine with_tabW batonref04_May.tab4 batonref04_May.bits4 (fun HT_ HW_=> ?_);generalize wr.drew=w17 at HB hx639_0 hx639_1 hx639_2 hx639_3 hx639_4 hx639_5 hHeld⊢;refine My.pu 0 10 1 HT_ ?_;refine My.pu 1 11 3 HT_ ?_;refine My.pu 2 12 7 HT_ ?_;refine My.tk 3 13 15 HT_ HW_ hHeld ?_;refine one_ (i:=4) (N:=some 14) (My.bl 24 31) rfl rfl (one_of HT_.out (by kernel_rfl)) (by decide) (fun K hK=> ?_);refine goes_ Try.func55 (by kernel_rfl) rfl #[.agg #[.string ((rd_T26 l0 x3_1).f0),.string ((rd_T26 l0 x3_1).f1),.int .i64 ((rd_T26 l0 x3_1).f2),.int .i64 ((rd_T26 l0 x3_1).f3),.int .i64 ((rd_T26 l0 x3_1).f4),.int .i64 ((rd_T26 l0 x3_1).f5)]] (by rfl) rfl rfl My.ar ?_;(with_reducible refine(batonref04_One.calls k1 ((rd_T26 l0 x3_1).f0) ((rd_T26 l0 x3_1).f1) ((rd_T26 l0 x3_1).f2) ((rd_T26 l0 x3_1).f3) ((rd_T26 l0 x3_1).f4) ((rd_T26 l0 x3_1).f5) false _ A4.out).mono ?_);rintro e w18 ⟨rfl,hb⟩;refine⟨_,rfl,?_⟩;replace HB:=My.m (below_step My.bB hb);refine hK.out _ _ ⟨(My.uq HB.out hw639_0),(My.uq HB.out hw639_1),(My.uq HB.out hw639_2),(My.uq HB.out hw639_3),(My.uq HB.out hw639_4),(My.uq HB.out hw639_5)⟩ (fun hHeld=> ?_);clear hK K;refine norm_ (a':= ?_) ?_ ?_;rotate_left
      ·show Act.put _ (some 14) _=_
       simp only [Act.put,List.setIfInBounds_toArray,List.set_cons_zero,List.set_cons_succ,i64_w,i32_w];rfl
      refine My.pu 5 15 63 HT_ ?_;refine My.pu 6 16 127 HT_ ?_;refine My.pz 7 17 255 HT_ ?_;refine My.pz 8 18 511 HT_ ?_;refine My.pz 9 19 1023 HT_ ?_;refine My.pz 10 20 2047 HT_ ?_;refine My.pz 11 21 4095 HT_ ?_;refine My.pz 12 22 8191 HT_ ?_;refine My.pz 13 23 16383 HT_ ?_;refine My.pz 14 24 32767 HT_ ?_;refine My.pz 15 25 65535 HT_ ?_;refine My.pz 16 26 131071 HT_ ?_;refine My.pz 17 27 262143 HT_ ?_;refine My.pz 18 28 524287 HT_ ?_;refine My.pz 19 29 1048575 HT_ ?_;refine My.pz 20 30 2097151 HT_ ?_;refine My.pz 21 31 4194303 HT_ ?_;refine My.pz 22 32 8388607 HT_ ?_;refine My.pu 23 33 16777215 HT_ ?_;refine done_ (done_of HT_.out (by kernel_rfl)) ?_;(try go_wp2)
      go_ret
      exact⟨My.q1,My.bB⟩
    ·exact My.no c3 H
   ·rw [if_neg c2] at H
    have c2b0:=decide_eq_false c2;clear c2;obtain rfl:=Option.some.inj H
    go_wp2
    go_ret
    exact⟨My.q1,My.bB⟩

/-! ### batonref04_Find: function 27 -/
def batonref04_Find.l0:Nat→List (S26)→ByteArray→Int→Option (ByteArray×ByteArray×Int×Int×Int×Int×Bool)
  |0,_,_,_=> none
  |k + 1,x0,x1,x6=> if x6 < (x0.length:Int) then (if 0≤x6 then (if ((rd_T26 x0 x6).f0).toList=x1.toList then (some ((rd_T26 x0 x6).f0,(rd_T26 x0 x6).f1,(rd_T26 x0 x6).f2,(rd_T26 x0 x6).f3,(rd_T26 x0 x6).f4,(rd_T26 x0 x6).f5,true)) else (batonref04_Find.l0 k x0 x1 (wrap64 (x6 + 1)))) else (none)) else (some ((⟨#[]⟩:ByteArray),(⟨#[]⟩:ByteArray),0,0,0,0,false))
def batonref04_Find.f (k:Nat) (l0:List (S26)) (a1:ByteArray):Option (ByteArray×ByteArray×Int×Int×Int×Int×Bool):=batonref04_Find.l0 k l0 a1 0
theorem batonref04_Find.mono_l:∀k,(∀y0 y1 y2,LeO (batonref04_Find.l0 k y0 y1 y2) (batonref04_Find.l0 (k + 1) y0 y1 y2))
  |0=> fun _ _ _ r h=> by simp [batonref04_Find.l0] at h
  |k + 1=> by
    have ih0:=batonref04_Find.mono_l k
    · intro y0 y1 y2
      unfold batonref04_Find.l0
      exact My.mono_
theorem batonref04_Find.mono:∀a0 a1 k,LeO (batonref04_Find.f k a0 a1) (batonref04_Find.f (k + 1) a0 a1):=by
  intro a0 a1 k
  have ih0:=batonref04_Find.mono_l k
  unfold batonref04_Find.f
  exact My.mono_
set_option maxHeartbeats 80000000 in
set_option maxRecDepth 100000 in
theorem batonref04_Find.calls (k:Nat) (A0:Option Addr) (c0:Nat) (l0:List (S26)) (a1:ByteArray) (r1:ByteArray) (r2:ByteArray) (r3:Int) (r4:Int) (r5:Int) (r6:Int) (r7:Bool) (w:World) (hr0:Kd.C k26 w A0 l0.length l0) (hc0:l0.length≤c0) (h:batonref04_Find.f k l0 a1=some (r1,r2,r3,r4,r5,r6,r7)):
    Calls Try.prog 27 #[.slice A0 l0.length c0,.string a1] w fun e w'=> e= .returned (.tuple #[.agg #[.string r1,.string r2,.int .i64 r3,.int .i64 r4,.int .i64 r5,.int .i64 r6],.bool r7])∧Below w.heap.size w w':=by
  have hu26:=Try.underlying26;have HR0:=Aside0.mk hr0;have HC0:=Aside0.mk hc0;clear hr0 hc0;have HB:=My.m (Below.refl w.heap.size w);have H:=h;clear h;unfold batonref04_Find.f at H;have H':=Aside0.mk H;clear H
  go_enter Try.func27,Try.ntmps27
  go_wp2_with (first|((with_reducible refine gate_dst (N:=4) rfl ?_);refine My.be 4 26 #[.string (⟨#[]⟩:ByteArray),.string (⟨#[]⟩:ByteArray),.int .i64 0,.int .i64 0,.int .i64 0,.int .i64 0] ?_;intro gb643 hg w3 hbox hb;have BK643:=My.m hbox;have GW643:=My.m ((My.nw w hg My.bB));have GE643:=My.m ((My.nw w hg My.bB));replace HB:=My.m (below_step My.bB hb);clear hb hbox hg))
  go_loopg [6] k (fun kq v6 w'=> ∃(x6_1:Int) (x644000_1:ByteArray) (x644001_1:ByteArray) (x644002_1:Int) (x644003_1:Int) (x644004_1:Int) (x644005_1:Int),v6= .int .i64 x6_1∧Aside0 (batonref04_Find.l0 kq l0 a1 x6_1=some (r1,r2,r3,r4,r5,r6,r7))∧Aside0 (kq≤k)∧Aside0 (w'.heap[gb643]? =some (.cells #[.string x644000_1,.string x644001_1,.int .i64 x644002_1,.int .i64 x644003_1,.int .i64 x644004_1,.int .i64 x644005_1] 26 (0,0)))∧Aside0 (Below w.heap.size w w'))
  case atStart=> exact⟨(0),((⟨#[]⟩:ByteArray)),((⟨#[]⟩:ByteArray)),(0),(0),(0),(0),My.q0,H',⟨Nat.le_refl _⟩,⟨My.Ka BK643.out⟩,⟨My.bA⟩⟩
  case round=>
    clear H';(try clear c2);(try clear p2);obtain⟨x6_1,x644000_1,x644001_1,x644002_1,x644003_1,x644004_1,x644005_1,rfl,HA,HK1,BK643,HB⟩:=hrel
    cases gk with
    |zero=> exact absurd HA.out (by simp [batonref04_Find.l0])
    |succ k1=>
      have H:=HA.out;clear HA;simp only [batonref04_Find.l0] at H
      by_cases c4:x6_1 < (l0.length:Int)
      · rw [if_pos c4] at H
        have c4b0:=decide_eq_true c4;clear c4
        by_cases c5:0≤x6_1
        · rw [if_pos c5] at H
          have c5b0:=decide_eq_true c5;clear c5
          by_cases c6:((rd_T26 l0 x6_1).f0).toList=a1.toList
          · rw [if_pos c6] at H
            have c6b0:(((rd_T26 l0 x6_1).f0).toList == a1.toList)=true:=beq_iff_eq.mpr c6;have c6b1:(((rd_T26 l0 x6_1).f0).toList != a1.toList)=false:=bne_eq_false_iff_eq.mpr c6;clear c6;simp only [Option.some.injEq,Prod.mk.injEq] at H;obtain⟨rfl,rfl,rfl,rfl,rfl,rfl,rfl⟩:=H;have p644:0≤(x6_1:Int):=of_decide_eq_true My.as;have q644:x6_1 < (l0.length:Int):=of_decide_eq_true My.as;obtain⟨ad644,e644,hx644_0,hx644_1,hx644_2,hx644_3,hx644_4,hx644_5⟩:=at_T26 HR0.out x6_1 p644 q644;cases e644;replace hx644_0:=My.up HB.out hx644_0;replace hx644_1:=My.up HB.out hx644_1;replace hx644_2:=My.up HB.out hx644_2;replace hx644_3:=My.up HB.out hx644_3;replace hx644_4:=My.up HB.out hx644_4;replace hx644_5:=My.up HB.out hx644_5;replace p644:=eq_true p644;replace q644:=eq_true q644;have p645:0≤(x6_1:Int):=of_decide_eq_true My.as;have q645:x6_1 < (l0.length:Int):=of_decide_eq_true My.as;obtain⟨ad645,e645,hx645_0,hx645_1,hx645_2,hx645_3,hx645_4,hx645_5⟩:=at_T26 HR0.out x6_1 p645 q645;obtain rfl:ad644=ad645:=(by injection e645);replace hx645_0:=My.up HB.out hx645_0;replace hx645_1:=My.up HB.out hx645_1;replace hx645_2:=My.up HB.out hx645_2;replace hx645_3:=My.up HB.out hx645_3;replace hx645_4:=My.up HB.out hx645_4;replace hx645_5:=My.up HB.out hx645_5;replace p645:=eq_true p645;replace q645:=eq_true q645;obtain⟨_,_,_,_,_,_⟩:=My.qc6 BK643.out;obtain⟨_,_,_,_,_,_⟩:=My.qf6 BK643.out
            go_wp2
            refine bodyPost_ret (results_ct rfl _ _ gb643 26 #[.string ((rd_T26 l0 x6_1).f0),.string ((rd_T26 l0 x6_1).f1),.int .i64 ((rd_T26 l0 x6_1).f2),.int .i64 ((rd_T26 l0 x6_1).f3),.int .i64 ((rd_T26 l0 x6_1).f4),.int .i64 ((rd_T26 l0 x6_1).f5)] (0,0) _ rfl (My.qp6 BK643.out) Try.underlying26 rfl (by kernel_rfl)) rfl ?_;exact⟨My.q1,My.bA⟩
          · rw [if_neg c6] at H
            have c6b0:(((rd_T26 l0 x6_1).f0).toList == a1.toList)=false:=beq_eq_false_iff_ne.mpr c6;have c6b1:(((rd_T26 l0 x6_1).f0).toList != a1.toList)=true:=bne_iff_ne.mpr c6;have H':=Aside0.mk H;clear H;have p644:0≤(x6_1:Int):=of_decide_eq_true My.as;have q644:x6_1 < (l0.length:Int):=of_decide_eq_true My.as;obtain⟨ad644,e644,hx644_0,hx644_1,hx644_2,hx644_3,hx644_4,hx644_5⟩:=at_T26 HR0.out x6_1 p644 q644;cases e644;replace hx644_0:=My.up HB.out hx644_0;replace hx644_1:=My.up HB.out hx644_1;replace hx644_2:=My.up HB.out hx644_2;replace hx644_3:=My.up HB.out hx644_3;replace hx644_4:=My.up HB.out hx644_4;replace hx644_5:=My.up HB.out hx644_5;replace p644:=eq_true p644;replace q644:=eq_true q644
            go_wp2
            go_roundg k1
            case measure=> have:=HK1.out;omega
            case rel=> exact⟨(wrap64 (x6_1 + 1)),(x644000_1),(x644001_1),(x644002_1),(x644003_1),(x644004_1),(x644005_1),My.q0,H',⟨by have:=HK1.out;omega⟩,⟨My.Ka BK643.out⟩,⟨My.bA⟩⟩
        · exact My.no c5 H
      · rw [if_neg c4] at H
        have c4b0:=decide_eq_false c4;clear c4;simp only [Option.some.injEq,Prod.mk.injEq] at H;obtain⟨rfl,rfl,rfl,rfl,rfl,rfl,rfl⟩:=H;obtain⟨_,_,_,_,_,_⟩:=My.qc6 BK643.out;obtain⟨_,_,_,_,_,_⟩:=My.qf6 BK643.out
        go_wp2
        refine bodyPost_ret (results_ct rfl _ _ gb643 26 #[.string (⟨#[]⟩:ByteArray),.string (⟨#[]⟩:ByteArray),.int .i64 0,.int .i64 0,.int .i64 0,.int .i64 0] (0,0) _ rfl (My.qp6 BK643.out) Try.underlying26 rfl (by kernel_rfl)) rfl ?_;exact⟨My.q1,My.bA⟩

/-! ### batonref05_right: function 42 -/
def batonref05_right.j0:Nat→Bool→Bool→Int→Bool→ByteArray→ByteArray→Int→Int→Int→Int→ByteArray→ByteArray→Int→Int→Int→Int→Option (Bool)
 |0,_,_,_,_,_,_,_,_,_,_,_,_,_,_,_,_=> none
 |k + 1,x6,x35,x647000,x647001,x647002,x647003,x647004,x647005,x647006,x647007,x655000,x655001,x655002,x655003,x655004,x655005=> if x35=true then (some false) else (if x6=true then (if x647004=x655002 then (some ((wrap64 (x647006 - 1)) == x655004)) else (some false)) else (if x647004=x647000 then (some (x647006 == 1)) else (some false)))
def batonref05_right.f (k:Nat) (l0:List (S26)) (a1_0:Int) (a1_1:Bool) (a1_2:ByteArray) (a1_3:ByteArray) (a1_4:Int) (a1_5:Int) (a1_6:Int) (a1_7:Int):Option (Bool):=(batonref04_Find.f k l0 a1_2).bind fun bt647=> (if a1_1=true then (if bt647.2.2.2.2.2.2=true then (some (bt647.1.toList == a1_2.toList && (bt647.2.1.toList == a1_3.toList && (bt647.2.2.1 == a1_4 && (bt647.2.2.2.1 == a1_5 && (bt647.2.2.2.2.1 == a1_6 && (bt647.2.2.2.2.2.1 == a1_7))))))) else (some false)) else ((batonref04_One.f k a1_2 a1_3 a1_4 a1_5 a1_6 a1_7).bind fun t655=> (if t655=true then (batonref05_right.j0 k bt647.2.2.2.2.2.2 (a1_5 != a1_0) a1_0 a1_1 a1_2 a1_3 a1_4 a1_5 a1_6 a1_7 bt647.1 bt647.2.1 bt647.2.2.1 bt647.2.2.2.1 bt647.2.2.2.2.1 bt647.2.2.2.2.2.1) else (batonref05_right.j0 k bt647.2.2.2.2.2.2 true a1_0 a1_1 a1_2 a1_3 a1_4 a1_5 a1_6 a1_7 bt647.1 bt647.2.1 bt647.2.2.1 bt647.2.2.2.1 bt647.2.2.2.2.1 bt647.2.2.2.2.2.1))))
theorem batonref05_right.mono_l:∀k,(∀y0 y1 y2 y3 y4 y5 y6 y7 y8 y9 y10 y11 y12 y13 y14 y15,LeO (batonref05_right.j0 k y0 y1 y2 y3 y4 y5 y6 y7 y8 y9 y10 y11 y12 y13 y14 y15) (batonref05_right.j0 (k + 1) y0 y1 y2 y3 y4 y5 y6 y7 y8 y9 y10 y11 y12 y13 y14 y15))
 |0=> fun _ _ _ _ _ _ _ _ _ _ _ _ _ _ _ _ r h=> by simp [batonref05_right.j0] at h
 |k + 1=> by
  have ih0:=batonref05_right.mono_l k
  ·intro y0 y1 y2 y3 y4 y5 y6 y7 y8 y9 y10 y11 y12 y13 y14 y15
   unfold batonref05_right.j0
   have ic0:= @batonref04_Find.mono;have ic1:= @batonref04_One.mono;exact My.mono_
theorem batonref05_right.mono:∀a0 a1 a2 a3 a4 a5 a6 a7 a8 k,LeO (batonref05_right.f k a0 a1 a2 a3 a4 a5 a6 a7 a8) (batonref05_right.f (k + 1) a0 a1 a2 a3 a4 a5 a6 a7 a8):=by
 intro a0 a1 a2 a3 a4 a5 a6 a7 a8 k
 have ih0:=batonref05_right.mono_l k
 unfold batonref05_right.f
 have ic0:= @batonref04_Find.mono;have ic1:= @batonref04_One.mono;exact My.mono_
set_option maxHeartbeats 80000000 in
set_option maxRecDepth 100000 in
theorem batonref05_right.calls (k:Nat) (A0:Option Addr) (c0:Nat) (l0:List (S26)) (a1_0:Int) (a1_1:Bool) (a1_2:ByteArray) (a1_3:ByteArray) (a1_4:Int) (a1_5:Int) (a1_6:Int) (a1_7:Int) (r:Bool) (w:World) (hr0:Kd.C k26 w A0 l0.length l0) (hc0:l0.length≤c0) (h:batonref05_right.f k l0 a1_0 a1_1 a1_2 a1_3 a1_4 a1_5 a1_6 a1_7=some r):
  Calls Try.prog 42 #[.slice A0 l0.length c0,.agg #[.int .i64 a1_0,.bool a1_1,.string a1_2,.string a1_3,.int .i64 a1_4,.int .i64 a1_5,.int .i64 a1_6,.int .i64 a1_7]] w fun e w'=> e= .returned (.bool r)∧Below w.heap.size w w':=by
 have hu54:=Try.underlying54;have hu26:=Try.underlying26;have HR0:=Aside0.mk hr0;have HC0:=Aside0.mk hc0;clear hr0 hc0;have HB:=My.m (Below.refl w.heap.size w);have H:=h;clear h;unfold batonref05_right.f at H;replace H:=Option.bind_eq_some_iff.mp H;obtain⟨⟨t647,t648,t649,t650,t651,t652,t653⟩,A30,H⟩:=H;dsimp only at H;have A3:=Aside0.mk A30;clear A30
 by_cases c4:a1_1=true
 ·subst c4
  rw [if_pos rfl] at H
  by_cases c5:t653=true
  ·subst c5
   rw [if_pos rfl] at H;obtain rfl:=Option.some.inj H
   go_enter Try.func42,Try.ntmps42
   go_wp2_with (first|((with_reducible refine gate_dst (N:=3) rfl ?_);refine My.be 3 54 #[.int .i64 a1_0,.bool true,.string a1_2,.string a1_3,.int .i64 a1_4,.int .i64 a1_5,.int .i64 a1_6,.int .i64 a1_7] ?_;intro gb646 hg w6 hbox hb;have BK646:=My.m hbox;have GW646:=My.m ((My.nw w hg My.bB));have GE646:=My.m ((My.nw w hg My.bB));replace HB:=My.m (below_step My.bB hb);clear hb hbox hg;obtain⟨hcz7_0,hcz7_1,hcz7_2,hcz7_3,hcz7_4,hcz7_5,hcz7_6,hcz7_7⟩:=My.qc8 BK646.out;obtain⟨hfz7_0,hfz7_1,hfz7_2,hfz7_3,hfz7_4,hfz7_5,hfz7_6,hfz7_7⟩:=My.qf8 BK646.out)|((with_reducible refine gate_callee (f:=27) rfl ?_);refine goesL_ (some 12) rfl rfl Try.func27 (by kernel_rfl) rfl #[.slice A0 l0.length c0,.string a1_2] rfl My.ar ?_;(with_reducible refine(batonref04_Find.calls k _ _ l0 a1_2 t647 t648 t649 t650 t651 t652 true _ ?side1 ?side2 A3.out).mono ?_);(case side1=> exact My.Ca (Kd.C_below HR0.out HB.out));(case side2=> exact HC0.out);rintro e w8 ⟨rfl,hb⟩;refine⟨_,rfl,?_⟩;replace BK646:=My.m (My.kb BK646.out hb);replace HB:=My.m (below_step My.bA hb))|((with_reducible refine gate_dst (N:=5) rfl ?_);refine My.be 5 26 #[.string (⟨#[]⟩:ByteArray),.string (⟨#[]⟩:ByteArray),.int .i64 0,.int .i64 0,.int .i64 0,.int .i64 0] ?_;intro gb654 hg w9 hbox hb;have BK654:=My.m hbox;have GW654:=My.m ((My.nw w hg My.bA));have GE654:=My.m ((My.nw w hg My.bA));replace HB:=My.m (below_step My.bA hb);have NB646_654:=My.m ((My.nl hg BK646));have NB654_646:=My.m ((My.nr hg BK646));replace BK646:=My.m (My.kb BK646.out hb);clear hb hbox hg;have hnb10:=NB654_646.out;have hnc10:=NB646_654.out;obtain⟨hcz11_0,hcz11_1,hcz11_2,hcz11_3,hcz11_4,hcz11_5⟩:=My.qc6 BK654.out;obtain⟨hfz11_0,hfz11_1,hfz11_2,hfz11_3,hfz11_4,hfz11_5⟩:=My.qf6 BK654.out;obtain⟨hcz12_0,hcz12_1,hcz12_2,hcz12_3,hcz12_4,hcz12_5,hcz12_6,hcz12_7⟩:=My.qc8 BK646.out;obtain⟨hfz12_0,hfz12_1,hfz12_2,hfz12_3,hfz12_4,hfz12_5,hfz12_6,hfz12_7⟩:=My.qf8 BK646.out))
   go_ret
   exact⟨My.q1,My.bA⟩
  ·replace c5:=Bool.eq_false_iff.mpr c5
   subst c5;rw [if_neg (show¬(false=true) by decide)] at H;obtain rfl:=Option.some.inj H
   go_enter Try.func42,Try.ntmps42
   go_wp2_with (first|((with_reducible refine gate_dst (N:=3) rfl ?_);refine My.be 3 54 #[.int .i64 a1_0,.bool true,.string a1_2,.string a1_3,.int .i64 a1_4,.int .i64 a1_5,.int .i64 a1_6,.int .i64 a1_7] ?_;intro gb646 hg w13 hbox hb;have BK646:=My.m hbox;have GW646:=My.m ((My.nw w hg My.bB));have GE646:=My.m ((My.nw w hg My.bB));replace HB:=My.m (below_step My.bB hb);clear hb hbox hg;obtain⟨hcz14_0,hcz14_1,hcz14_2,hcz14_3,hcz14_4,hcz14_5,hcz14_6,hcz14_7⟩:=My.qc8 BK646.out;obtain⟨hfz14_0,hfz14_1,hfz14_2,hfz14_3,hfz14_4,hfz14_5,hfz14_6,hfz14_7⟩:=My.qf8 BK646.out)|((with_reducible refine gate_callee (f:=27) rfl ?_);refine goesL_ (some 12) rfl rfl Try.func27 (by kernel_rfl) rfl #[.slice A0 l0.length c0,.string a1_2] rfl My.ar ?_;(with_reducible refine(batonref04_Find.calls k _ _ l0 a1_2 t647 t648 t649 t650 t651 t652 false _ ?side1 ?side2 A3.out).mono ?_);(case side1=> exact My.Ca (Kd.C_below HR0.out HB.out));(case side2=> exact HC0.out);rintro e w15 ⟨rfl,hb⟩;refine⟨_,rfl,?_⟩;replace BK646:=My.m (My.kb BK646.out hb);replace HB:=My.m (below_step My.bA hb))|((with_reducible refine gate_dst (N:=5) rfl ?_);refine My.be 5 26 #[.string (⟨#[]⟩:ByteArray),.string (⟨#[]⟩:ByteArray),.int .i64 0,.int .i64 0,.int .i64 0,.int .i64 0] ?_;intro gb654 hg w16 hbox hb;have BK654:=My.m hbox;have GW654:=My.m ((My.nw w hg My.bA));have GE654:=My.m ((My.nw w hg My.bA));replace HB:=My.m (below_step My.bA hb);have NB646_654:=My.m ((My.nl hg BK646));have NB654_646:=My.m ((My.nr hg BK646));replace BK646:=My.m (My.kb BK646.out hb);clear hb hbox hg;have hnb17:=NB654_646.out;have hnc17:=NB646_654.out;obtain⟨hcz18_0,hcz18_1,hcz18_2,hcz18_3,hcz18_4,hcz18_5⟩:=My.qc6 BK654.out;obtain⟨hfz18_0,hfz18_1,hfz18_2,hfz18_3,hfz18_4,hfz18_5⟩:=My.qf6 BK654.out;obtain⟨hcz19_0,hcz19_1,hcz19_2,hcz19_3,hcz19_4,hcz19_5,hcz19_6,hcz19_7⟩:=My.qc8 BK646.out;obtain⟨hfz19_0,hfz19_1,hfz19_2,hfz19_3,hfz19_4,hfz19_5,hfz19_6,hfz19_7⟩:=My.qf8 BK646.out))
   go_ret
   exact⟨My.q1,My.bA⟩
 ·replace c4:=Bool.eq_false_iff.mpr c4
  subst c4;rw [if_neg (show¬(false=true) by decide)] at H;have HC20:=Aside0.mk H;clear H
  go_enter Try.func42,Try.ntmps42
  go_upto_region 4 with (first|((with_reducible refine gate_dst (N:=3) rfl ?_);refine My.be 3 54 #[.int .i64 a1_0,.bool false,.string a1_2,.string a1_3,.int .i64 a1_4,.int .i64 a1_5,.int .i64 a1_6,.int .i64 a1_7] ?_;intro gb646 hg w21 hbox hb;have BK646:=My.m hbox;have GW646:=My.m ((My.nw w hg My.bB));have GE646:=My.m ((My.nw w hg My.bB));replace HB:=My.m (below_step My.bB hb);clear hb hbox hg;obtain⟨hcz22_0,hcz22_1,hcz22_2,hcz22_3,hcz22_4,hcz22_5,hcz22_6,hcz22_7⟩:=My.qc8 BK646.out;obtain⟨hfz22_0,hfz22_1,hfz22_2,hfz22_3,hfz22_4,hfz22_5,hfz22_6,hfz22_7⟩:=My.qf8 BK646.out)|((with_reducible refine gate_callee (f:=27) rfl ?_);refine goesL_ (some 12) rfl rfl Try.func27 (by kernel_rfl) rfl #[.slice A0 l0.length c0,.string a1_2] rfl My.ar ?_;(with_reducible refine(batonref04_Find.calls k _ _ l0 a1_2 t647 t648 t649 t650 t651 t652 t653 _ ?side1 ?side2 A3.out).mono ?_);(case side1=> exact My.Ca (Kd.C_below HR0.out HB.out));(case side2=> exact HC0.out);rintro e w23 ⟨rfl,hb⟩;refine⟨_,rfl,?_⟩;replace BK646:=My.m (My.kb BK646.out hb);replace HB:=My.m (below_step My.bA hb))|((with_reducible refine gate_dst (N:=5) rfl ?_);refine My.be 5 26 #[.string (⟨#[]⟩:ByteArray),.string (⟨#[]⟩:ByteArray),.int .i64 0,.int .i64 0,.int .i64 0,.int .i64 0] ?_;intro gb654 hg w24 hbox hb;have BK654:=My.m hbox;have GW654:=My.m ((My.nw w hg My.bA));have GE654:=My.m ((My.nw w hg My.bA));replace HB:=My.m (below_step My.bA hb);have NB646_654:=My.m ((My.nl hg BK646));have NB654_646:=My.m ((My.nr hg BK646));replace BK646:=My.m (My.kb BK646.out hb);clear hb hbox hg;have hnb25:=NB654_646.out;have hnc25:=NB646_654.out;obtain⟨hcz26_0,hcz26_1,hcz26_2,hcz26_3,hcz26_4,hcz26_5⟩:=My.qc6 BK654.out;obtain⟨hfz26_0,hfz26_1,hfz26_2,hfz26_3,hfz26_4,hfz26_5⟩:=My.qf6 BK654.out;obtain⟨hcz27_0,hcz27_1,hcz27_2,hcz27_3,hcz27_4,hcz27_5,hcz27_6,hcz27_7⟩:=My.qc8 BK646.out;obtain⟨hfz27_0,hfz27_1,hfz27_2,hfz27_3,hfz27_4,hfz27_5,hfz27_6,hfz27_7⟩:=My.qf8 BK646.out))
  (try simp only [Act.put,List.setIfInBounds_toArray,List.set_cons_zero,List.set_cons_succ])
  go_cut [35] (fun v35 wc=> ∃(kq:Nat) (x35_19:Bool),v35= .bool x35_19∧Aside0 (batonref05_right.j0 kq t653 x35_19 a1_0 false a1_2 a1_3 a1_4 a1_5 a1_6 a1_7 t647 t648 t649 t650 t651 t652=some r)∧Aside0 (kq≤k)∧Aside0 (wc.heap[gb646]? =some (.cells #[.int .i64 a1_0,.bool false,.string a1_2,.string a1_3,.int .i64 a1_4,.int .i64 a1_5,.int .i64 a1_6,.int .i64 a1_7] 54 (0,0)))∧Aside0 (wc.heap[gb654]? =some (.cells #[.string t647,.string t648,.int .i64 t649,.int .i64 t650,.int .i64 t651,.int .i64 t652] 26 (0,0)))∧Aside0 (Below w.heap.size w wc))
  case first=>
   have H:=HC20.out;clear HC20;replace H:=Option.bind_eq_some_iff.mp H;obtain⟨t655,A280,H⟩:=H;have A28:=Aside0.mk A280;clear A280
   by_cases c29:t655=true
   ·subst c29
    rw [if_pos rfl] at H;have H':=Aside0.mk H;clear H;have hnb30:=NB646_654.out;have hnc30:=NB654_646.out;obtain⟨hcz31_0,hcz31_1,hcz31_2,hcz31_3,hcz31_4,hcz31_5,hcz31_6,hcz31_7⟩:=My.qc8 BK646.out;obtain⟨hfz31_0,hfz31_1,hfz31_2,hfz31_3,hfz31_4,hfz31_5,hfz31_6,hfz31_7⟩:=My.qf8 BK646.out
    go_wp2_with (first|((with_reducible refine gate_callee (f:=55) rfl ?_);refine goesL_ (some 26) rfl rfl Try.func55 (by kernel_rfl) rfl #[.agg #[.string a1_2,.string a1_3,.int .i64 a1_4,.int .i64 a1_5,.int .i64 a1_6,.int .i64 a1_7]] rfl My.ar ?_;(with_reducible refine(batonref04_One.calls k a1_2 a1_3 a1_4 a1_5 a1_6 a1_7 true _ A28.out).mono ?_);rintro e w32 ⟨rfl,hb⟩;refine⟨_,rfl,?_⟩;replace BK646:=My.m (blk_below (My.qb6 NB646_654.out BK646.out) hb);replace BK654:=My.m (blk_below (My.qp6 BK654.out) hb);replace HB:=My.m (below_step My.bA hb);obtain⟨hcz33_0,hcz33_1,hcz33_2,hcz33_3,hcz33_4,hcz33_5,hcz33_6,hcz33_7⟩:=My.qc8 BK646.out;obtain⟨hfz33_0,hfz33_1,hfz33_2,hfz33_3,hfz33_4,hfz33_5,hfz33_6,hfz33_7⟩:=My.qf8 BK646.out))
    go_meet
    case rel=> exact⟨_,((a1_5 != a1_0)),My.q0,H',⟨by first|omega|exact Nat.le_refl _⟩,⟨My.Ka BK646.out⟩,⟨My.Ka BK654.out⟩,⟨My.bA⟩⟩
   ·replace c29:=Bool.eq_false_iff.mpr c29
    subst c29;rw [if_neg (show¬(false=true) by decide)] at H;have H':=Aside0.mk H;clear H;have hnb34:=NB646_654.out;have hnc34:=NB654_646.out;obtain⟨hcz35_0,hcz35_1,hcz35_2,hcz35_3,hcz35_4,hcz35_5,hcz35_6,hcz35_7⟩:=My.qc8 BK646.out;obtain⟨hfz35_0,hfz35_1,hfz35_2,hfz35_3,hfz35_4,hfz35_5,hfz35_6,hfz35_7⟩:=My.qf8 BK646.out
    go_wp2_with (first|((with_reducible refine gate_callee (f:=55) rfl ?_);refine goesL_ (some 26) rfl rfl Try.func55 (by kernel_rfl) rfl #[.agg #[.string a1_2,.string a1_3,.int .i64 a1_4,.int .i64 a1_5,.int .i64 a1_6,.int .i64 a1_7]] rfl My.ar ?_;(with_reducible refine(batonref04_One.calls k a1_2 a1_3 a1_4 a1_5 a1_6 a1_7 false _ A28.out).mono ?_);rintro e w36 ⟨rfl,hb⟩;refine⟨_,rfl,?_⟩;replace BK646:=My.m (blk_below (My.qb6 NB646_654.out BK646.out) hb);replace BK654:=My.m (blk_below (My.qp6 BK654.out) hb);replace HB:=My.m (below_step My.bA hb)))
    go_meet
    case rel=> exact⟨_,(true),My.q0,H',⟨by first|omega|exact Nat.le_refl _⟩,⟨My.Ka BK646.out⟩,⟨My.Ka BK654.out⟩,⟨My.bA⟩⟩
  case rest=>
   clear HC20;(repeat first|clear c1|clear c2|clear p2|clear c3|clear c4|clear c5|clear c10|clear c17|clear c25|clear c27|clear c29|clear c30|clear c34|clear hcz11_0|clear hcz11_1|clear hcz11_2|clear hcz11_3|clear hcz11_4|clear hcz11_5|clear hcz12_0|clear hcz12_1|clear hcz12_2|clear hcz12_3|clear hcz12_4|clear hcz12_5|clear hcz12_6|clear hcz12_7|clear hcz14_0|clear hcz14_1|clear hcz14_2|clear hcz14_3|clear hcz14_4|clear hcz14_5|clear hcz14_6|clear hcz14_7|clear hcz18_0|clear hcz18_1|clear hcz18_2|clear hcz18_3|clear hcz18_4|clear hcz18_5|clear hcz19_0|clear hcz19_1|clear hcz19_2|clear hcz19_3|clear hcz19_4|clear hcz19_5|clear hcz19_6|clear hcz19_7|clear hcz22_0|clear hcz22_1|clear hcz22_2|clear hcz22_3|clear hcz22_4|clear hcz22_5|clear hcz22_6|clear hcz22_7|clear hcz26_0|clear hcz26_1|clear hcz26_2|clear hcz26_3|clear hcz26_4|clear hcz26_5|clear hcz27_0|clear hcz27_1|clear hcz27_2|clear hcz27_3|clear hcz27_4|clear hcz27_5|clear hcz27_6|clear hcz27_7|clear hcz31_0|clear hcz31_1|clear hcz31_2|clear hcz31_3|clear hcz31_4|clear hcz31_5|clear hcz31_6|clear hcz31_7|clear hcz33_0|clear hcz33_1|clear hcz33_2|clear hcz33_3|clear hcz33_4|clear hcz33_5|clear hcz33_6|clear hcz33_7|clear hcz35_0|clear hcz35_1|clear hcz35_2|clear hcz35_3|clear hcz35_4|clear hcz35_5|clear hcz35_6|clear hcz35_7|clear hcz7_0|clear hcz7_1|clear hcz7_2|clear hcz7_3|clear hcz7_4|clear hcz7_5|clear hcz7_6|clear hcz7_7|clear hfz11_0|clear hfz11_1|clear hfz11_2|clear hfz11_3|clear hfz11_4|clear hfz11_5|clear hfz12_0|clear hfz12_1|clear hfz12_2|clear hfz12_3|clear hfz12_4|clear hfz12_5|clear hfz12_6|clear hfz12_7|clear hfz14_0|clear hfz14_1|clear hfz14_2|clear hfz14_3|clear hfz14_4|clear hfz14_5|clear hfz14_6|clear hfz14_7|clear hfz18_0|clear hfz18_1|clear hfz18_2|clear hfz18_3|clear hfz18_4|clear hfz18_5|clear hfz19_0|clear hfz19_1|clear hfz19_2|clear hfz19_3|clear hfz19_4|clear hfz19_5|clear hfz19_6|clear hfz19_7|clear hfz22_0|clear hfz22_1|clear hfz22_2|clear hfz22_3|clear hfz22_4|clear hfz22_5|clear hfz22_6|clear hfz22_7|clear hfz26_0|clear hfz26_1|clear hfz26_2|clear hfz26_3|clear hfz26_4|clear hfz26_5|clear hfz27_0|clear hfz27_1|clear hfz27_2|clear hfz27_3|clear hfz27_4|clear hfz27_5|clear hfz27_6|clear hfz27_7|clear hfz31_0|clear hfz31_1|clear hfz31_2|clear hfz31_3|clear hfz31_4|clear hfz31_5|clear hfz31_6|clear hfz31_7|clear hfz33_0|clear hfz33_1|clear hfz33_2|clear hfz33_3|clear hfz33_4|clear hfz33_5|clear hfz33_6|clear hfz33_7|clear hfz35_0|clear hfz35_1|clear hfz35_2|clear hfz35_3|clear hfz35_4|clear hfz35_5|clear hfz35_6|clear hfz35_7|clear hfz7_0|clear hfz7_1|clear hfz7_2|clear hfz7_3|clear hfz7_4|clear hfz7_5|clear hfz7_6|clear hfz7_7);obtain⟨kq,x35_19,rfl,HA,HJ19,BK646,BK654,HB⟩:=hcut
   cases kq with
   |zero=> exact absurd HA.out (by simp [batonref05_right.j0])
   |succ kj19=>
    have H:=HA.out;clear HA;simp only [batonref05_right.j0] at H
    by_cases c37:x35_19=true
    ·subst c37
     rw [if_pos rfl] at H;obtain rfl:=Option.some.inj H
     go_wp2
     go_ret
     exact⟨My.q1,My.bA⟩
    ·replace c37:=Bool.eq_false_iff.mpr c37
     subst c37;rw [if_neg (show¬(false=true) by decide)] at H
     by_cases c38:t653=true
     ·subst c38
      rw [if_pos rfl] at H
      by_cases c39:a1_4=t649
      ·rw [if_pos c39] at H
       have c39b0:(a1_4 == t649)=true:=beq_iff_eq.mpr c39;have c39b1:(a1_4 != t649)=false:=bne_eq_false_iff_eq.mpr c39;clear c39;obtain rfl:=Option.some.inj H;have hnb40:=NB646_654.out;have hnc40:=NB654_646.out;obtain⟨_,_,_,_,_,_,_,_⟩:=My.qc8 BK646.out;obtain⟨_,_,_,_,_,_,_,_⟩:=My.qf8 BK646.out;obtain⟨_,_,_,_,_,_⟩:=My.qc6 BK654.out;obtain⟨_,_,_,_,_,_⟩:=My.qf6 BK654.out
       go_wp2
       go_ret
       exact⟨My.q1,My.bA⟩
      ·rw [if_neg c39] at H
       have c39b0:(a1_4 == t649)=false:=beq_eq_false_iff_ne.mpr c39;have c39b1:(a1_4 != t649)=true:=bne_iff_ne.mpr c39;obtain rfl:=Option.some.inj H;have hnb43:=NB646_654.out;have hnc43:=NB654_646.out;obtain⟨_,_,_,_,_,_,_,_⟩:=My.qc8 BK646.out;obtain⟨_,_,_,_,_,_,_,_⟩:=My.qf8 BK646.out;obtain⟨_,_,_,_,_,_⟩:=My.qc6 BK654.out;obtain⟨_,_,_,_,_,_⟩:=My.qf6 BK654.out
       go_wp2
       go_ret
       exact⟨My.q1,My.bA⟩
     ·replace c38:=Bool.eq_false_iff.mpr c38
      subst c38;rw [if_neg (show¬(false=true) by decide)] at H
      by_cases c46:a1_4=a1_0
      ·rw [if_pos c46] at H
       have c46b0:(a1_4 == a1_0)=true:=beq_iff_eq.mpr c46;have c46b1:(a1_4 != a1_0)=false:=bne_eq_false_iff_eq.mpr c46;clear c46;obtain rfl:=Option.some.inj H;have hnb47:=NB646_654.out;have hnc47:=NB654_646.out;obtain⟨_,_,_,_,_,_,_,_⟩:=My.qc8 BK646.out;obtain⟨_,_,_,_,_,_,_,_⟩:=My.qf8 BK646.out
       go_wp2
       go_ret
       exact⟨My.q1,My.bA⟩
      ·rw [if_neg c46] at H
       have c46b0:(a1_4 == a1_0)=false:=beq_eq_false_iff_ne.mpr c46;have c46b1:(a1_4 != a1_0)=true:=bne_iff_ne.mpr c46;obtain rfl:=Option.some.inj H;have hnb49:=NB646_654.out;have hnc49:=NB654_646.out;obtain⟨_,_,_,_,_,_,_,_⟩:=My.qc8 BK646.out;obtain⟨_,_,_,_,_,_,_,_⟩:=My.qf8 BK646.out
       go_wp2
       go_ret
       exact⟨My.q1,My.bA⟩

/-! ### batonref04_Fold: function 43 -/
def batonref04_Fold.l0:Nat→List (S26)→List (S54)→Int→Int→Option ((List (S26)))
  |0,_,_,_,_=> none
  |k + 1,x0,x1,x2,x7=> if x7 < (x1.length:Int) then (if 0≤x7 then (if ((rd_T54 x1 x7).f0) > x2 then (batonref04_Fold.l0 k x0 x1 x2 (wrap64 (x7 + 1))) else (if (rd_T54 x1 x7).f1=true then ((batonref04_Take.f k x0 ((rd_T54 x1 x7).f2.f0)).bind fun t659=> (batonref04_Fold.l0 k t659 x1 x2 (wrap64 (x7 + 1)))) else ((batonref04_Lay.f k x0 ((rd_T54 x1 x7).f2.f0) ((rd_T54 x1 x7).f2.f1) ((rd_T54 x1 x7).f2.f2) ((rd_T54 x1 x7).f2.f3) ((rd_T54 x1 x7).f2.f4) ((rd_T54 x1 x7).f2.f5)).bind fun t663=> (batonref04_Fold.l0 k t663 x1 x2 (wrap64 (x7 + 1)))))) else (none)) else (some x0)
def batonref04_Fold.f (k:Nat) (l0:List (S26)) (l1:List (S54)) (a2:Int):Option ((List (S26))):=batonref04_Fold.l0 k l0 l1 a2 0
theorem batonref04_Fold.mono_l:∀k,(∀y0 y1 y2 y3,LeO (batonref04_Fold.l0 k y0 y1 y2 y3) (batonref04_Fold.l0 (k + 1) y0 y1 y2 y3))
  |0=> fun _ _ _ _ r h=> by simp [batonref04_Fold.l0] at h
  |k + 1=> by
    have ih0:=batonref04_Fold.mono_l k
    · intro y0 y1 y2 y3
      unfold batonref04_Fold.l0
      have ic0:= @batonref04_Lay.mono;have ic1:= @batonref04_Take.mono;exact My.mono_
theorem batonref04_Fold.mono:∀a0 a1 a2 k,LeO (batonref04_Fold.f k a0 a1 a2) (batonref04_Fold.f (k + 1) a0 a1 a2):=by
  intro a0 a1 a2 k
  have ih0:=batonref04_Fold.mono_l k
  unfold batonref04_Fold.f
  have ic0:= @batonref04_Lay.mono;have ic1:= @batonref04_Take.mono;exact My.mono_
set_option maxHeartbeats 80000000 in
set_option maxRecDepth 100000 in
theorem batonref04_Fold.calls (k:Nat) (P0_:Nat→Prop) (A0:Option Addr) (c0:Nat) (l0:List (S26)) (A1:Option Addr) (c1:Nat) (l1:List (S54)) (a2:Int) (r:List (S26)) (w:World) (hs0:Kd.V k26 26 w w.heap.size (fun k_=> P0_ k_) (.slice A0 l0.length c0) l0) (hr1:Kd.C k54 w A1 l1.length l1) (hc1:l1.length≤c1) (h:batonref04_Fold.f k l0 l1 a2=some r):
    Calls Try.prog 43 #[.slice A0 l0.length c0,.slice A1 l1.length c1,.int .i64 a2] w fun e w'=> ∃v0_:Value,e= .returned (v0_)∧Kd.V k26 26 w' w.heap.size (fun k_=> (P0_ k_∨w.heap.size≤k_)) v0_ r∧Below w.heap.size w w':=by
  have hu26:=Try.underlying26;have HO0:=My.m (show Kd.V k26 26 w w.heap.size (fun k_=> (P0_ k_∨w.heap.size≤k_)) (.slice A0 l0.length c0) l0 from Kd.V_mono hs0 (fun k_ hk=> .inl hk));have HR1:=Aside0.mk hr1;have HC1:=Aside0.mk hc1;clear hr1 hc1;have HB:=My.m (Below.refl w.heap.size w);have H:=h;clear h;unfold batonref04_Fold.f at H;have H':=Aside0.mk H;clear H
  go_enter Try.func43,Try.ntmps43
  go_wp2
  go_loopg [0,7] k (fun kq v0 v7 w'=> ∃(x0_1:List (S26)) (x7_1:Int),v7= .int .i64 x7_1∧Aside0 (batonref04_Fold.l0 kq x0_1 l1 a2 x7_1=some r)∧Aside0 (kq≤k)∧Aside0 (Kd.V k26 26 w' w.heap.size (fun k_=> (P0_ k_∨w.heap.size≤k_)) v0 x0_1)∧Aside0 (Below w.heap.size w w'))
  case atStart=> exact⟨(l0),(0),My.q0,H',⟨Nat.le_refl _⟩,⟨My.Va HO0.out⟩,⟨My.bB⟩⟩
  case round=>
    clear H';(try clear c1);(try clear p2);obtain⟨x0_1,x7_1,rfl,HA,HK1,HO_0,HB⟩:=hrel
    cases gk with
    |zero=> exact absurd HA.out (by simp [batonref04_Fold.l0])
    |succ k1=>
      have H:=HA.out;clear HA;simp only [batonref04_Fold.l0] at H
      by_cases c4:x7_1 < (l1.length:Int)
      · rw [if_pos c4] at H
        have c4b0:=decide_eq_true c4;clear c4
        by_cases c5:0≤x7_1
        · rw [if_pos c5] at H
          have c5b0:=decide_eq_true c5;clear c5
          by_cases c6:((rd_T54 l1 x7_1).f0) > a2
          · rw [if_pos c6] at H
            have c6b0:=decide_eq_true c6;clear c6;have H':=Aside0.mk H;clear H;have p656:0≤(x7_1:Int):=of_decide_eq_true My.as;have q656:x7_1 < (l1.length:Int):=of_decide_eq_true My.as;obtain⟨ad656,e656,hx656_0,hx656_1,hx656_2,hx656_3,hx656_4,hx656_5,hx656_6,hx656_7⟩:=at_T54 HR1.out x7_1 p656 q656;cases e656;replace hx656_0:=My.up HB.out hx656_0;replace hx656_1:=My.up HB.out hx656_1;replace hx656_2:=My.up HB.out hx656_2;replace hx656_3:=My.up HB.out hx656_3;replace hx656_4:=My.up HB.out hx656_4;replace hx656_5:=My.up HB.out hx656_5;replace hx656_6:=My.up HB.out hx656_6;replace hx656_7:=My.up HB.out hx656_7;replace p656:=eq_true p656;replace q656:=eq_true q656
            go_wp2
            go_roundg k1
            case measure=> have:=HK1.out;omega
            case rel=> exact⟨(x0_1),(wrap64 (x7_1 + 1)),My.q0,H',⟨by have:=HK1.out;omega⟩,⟨My.Va HO_0.out⟩,⟨My.bB⟩⟩
          · rw [if_neg c6] at H
            have c6b0:=decide_eq_false c6;clear c6;obtain⟨bq7,hbq7⟩:∃b_:Bool,b_=((rd_T54 l1 x7_1).f1):=⟨_,rfl⟩;(replace H:(if bq7=true then ((batonref04_Take.f k1 x0_1 ((rd_T54 l1 x7_1).f2.f0)).bind fun t659=> (batonref04_Fold.l0 k1 t659 l1 a2 (wrap64 (x7_1 + 1)))) else ((batonref04_Lay.f k1 x0_1 ((rd_T54 l1 x7_1).f2.f0) ((rd_T54 l1 x7_1).f2.f1) ((rd_T54 l1 x7_1).f2.f2) ((rd_T54 l1 x7_1).f2.f3) ((rd_T54 l1 x7_1).f2.f4) ((rd_T54 l1 x7_1).f2.f5)).bind fun t663=> (batonref04_Fold.l0 k1 t663 l1 a2 (wrap64 (x7_1 + 1)))))=some r:=by rw [←hbq7] at H;exact H);have Nbq7:=Aside0.mk hbq7;clear hbq7
            by_cases c8:bq7=true
            · subst c8
              rw [if_pos rfl] at H;replace H:=Option.bind_eq_some_iff.mp H;obtain⟨t659,A90,H⟩:=H;have A9:=Aside0.mk A90;clear A90;have H':=Aside0.mk H;clear H;have p656:0≤(x7_1:Int):=of_decide_eq_true My.as;have q656:x7_1 < (l1.length:Int):=of_decide_eq_true My.as;obtain⟨ad656,e656,hx656_0,hx656_1,hx656_2,hx656_3,hx656_4,hx656_5,hx656_6,hx656_7⟩:=at_T54 HR1.out x7_1 p656 q656;(try rw [←Nbq7.out] at hx656_1);cases e656;replace hx656_0:=My.up HB.out hx656_0;replace hx656_1:=My.up HB.out hx656_1;replace hx656_2:=My.up HB.out hx656_2;replace hx656_3:=My.up HB.out hx656_3;replace hx656_4:=My.up HB.out hx656_4;replace hx656_5:=My.up HB.out hx656_5;replace hx656_6:=My.up HB.out hx656_6;replace hx656_7:=My.up HB.out hx656_7;replace p656:=eq_true p656;replace q656:=eq_true q656;have p657:0≤(x7_1:Int):=of_decide_eq_true My.as;have q657:x7_1 < (l1.length:Int):=of_decide_eq_true My.as;obtain⟨ad657,e657,hx657_0,hx657_1,hx657_2,hx657_3,hx657_4,hx657_5,hx657_6,hx657_7⟩:=at_T54 HR1.out x7_1 p657 q657;(try rw [←Nbq7.out] at hx657_1);obtain rfl:ad656=ad657:=(by injection e657);replace hx657_0:=My.up HB.out hx657_0;replace hx657_1:=My.up HB.out hx657_1;replace hx657_2:=My.up HB.out hx657_2;replace hx657_3:=My.up HB.out hx657_3;replace hx657_4:=My.up HB.out hx657_4;replace hx657_5:=My.up HB.out hx657_5;replace hx657_6:=My.up HB.out hx657_6;replace hx657_7:=My.up HB.out hx657_7;replace p657:=eq_true p657;replace q657:=eq_true q657;have p658:0≤(x7_1:Int):=of_decide_eq_true My.as;have q658:x7_1 < (l1.length:Int):=of_decide_eq_true My.as;obtain⟨ad658,e658,hx658_0,hx658_1,hx658_2,hx658_3,hx658_4,hx658_5,hx658_6,hx658_7⟩:=at_T54 HR1.out x7_1 p658 q658;(try rw [←Nbq7.out] at hx658_1);obtain rfl:ad656=ad658:=(by injection e658);replace hx658_0:=My.up HB.out hx658_0;replace hx658_1:=My.up HB.out hx658_1;replace hx658_2:=My.up HB.out hx658_2;replace hx658_3:=My.up HB.out hx658_3;replace hx658_4:=My.up HB.out hx658_4;replace hx658_5:=My.up HB.out hx658_5;replace hx658_6:=My.up HB.out hx658_6;replace hx658_7:=My.up HB.out hx658_7;replace p658:=eq_true p658;replace q658:=eq_true q658;obtain⟨Ao10,co10,eo10⟩:=Kd.V_slice HO_0.out;subst eo10
              go_wp2_with (first|((with_reducible refine gate_callee (f:=54) rfl ?_);refine goesL_ (some 33) rfl rfl Try.func54 (by kernel_rfl) rfl #[.slice Ao10 x0_1.length co10,.string ((rd_T54 l1 x7_1).f2.f0)] rfl My.ar ?_;(with_reducible refine(batonref04_Take.calls k1 _ _ x0_1 ((rd_T54 l1 x7_1).f2.f0) t659 _ ?side1 ?side2 A9.out).mono ?_);(case side1=> repeat(first|exact(Kd.V_reads' HO_0.out).2.2|(with_reducible refine Kd.C_alloc ?_ _)|(with_reducible refine Kd.C_drewN ?_ _)|(with_reducible refine Kd.C_drew ?_)));(case side2=> exact(Kd.V_reads' HO_0.out).2.1);rintro e w11 ⟨v660,rfl,ho0,hb⟩;refine⟨_,rfl,?_⟩;replace HO_0:=My.m (Kd.V_elder' (My.Va HO_0.out) (Kd.R_base ho0) hb);have HO661:=My.m (Kd.R_lower (Kd.R_newM (M:=fun k_=> (w.heap.size≤k_)) ho0 (below_size My.bB) (fun k_ h_=> h_)) (below_size My.bB));replace HB:=My.m (below_step My.bB hb);(repeat first|clear hb|clear hb2|clear hk|clear hi|clear ho0)))
              go_roundg k1
              case measure=> have:=HK1.out;omega
              case rel=> exact⟨(t659),(wrap64 (x7_1 + 1)),My.q0,H',⟨by have:=HK1.out;omega⟩,⟨Kd.V_mono (Kd.R_V (by(with_reducible repeat(first|apply Kd.R_alloc|apply Kd.R_drewN|apply Kd.R_drew));exact Kd.R_mono HO661.out (fun _ hk=> hk.1))) (fun k_ hk=> by first|exact⟨(.inr (hk.1)),hk.2⟩|exact(.inr (hk)))⟩,⟨My.bB⟩⟩
            · replace c8:=Bool.eq_false_iff.mpr c8
              subst c8;rw [if_neg (show¬(false=true) by decide)] at H;replace H:=Option.bind_eq_some_iff.mp H;obtain⟨t663,A120,H⟩:=H;have A12:=Aside0.mk A120;clear A120;have H':=Aside0.mk H;clear H;have p656:0≤(x7_1:Int):=of_decide_eq_true My.as;have q656:x7_1 < (l1.length:Int):=of_decide_eq_true My.as;obtain⟨ad656,e656,hx656_0,hx656_1,hx656_2,hx656_3,hx656_4,hx656_5,hx656_6,hx656_7⟩:=at_T54 HR1.out x7_1 p656 q656;(try rw [←Nbq7.out] at hx656_1);cases e656;replace hx656_0:=My.up HB.out hx656_0;replace hx656_1:=My.up HB.out hx656_1;replace hx656_2:=My.up HB.out hx656_2;replace hx656_3:=My.up HB.out hx656_3;replace hx656_4:=My.up HB.out hx656_4;replace hx656_5:=My.up HB.out hx656_5;replace hx656_6:=My.up HB.out hx656_6;replace hx656_7:=My.up HB.out hx656_7;replace p656:=eq_true p656;replace q656:=eq_true q656;have p657:0≤(x7_1:Int):=of_decide_eq_true My.as;have q657:x7_1 < (l1.length:Int):=of_decide_eq_true My.as;obtain⟨ad657,e657,hx657_0,hx657_1,hx657_2,hx657_3,hx657_4,hx657_5,hx657_6,hx657_7⟩:=at_T54 HR1.out x7_1 p657 q657;(try rw [←Nbq7.out] at hx657_1);obtain rfl:ad656=ad657:=(by injection e657);replace hx657_0:=My.up HB.out hx657_0;replace hx657_1:=My.up HB.out hx657_1;replace hx657_2:=My.up HB.out hx657_2;replace hx657_3:=My.up HB.out hx657_3;replace hx657_4:=My.up HB.out hx657_4;replace hx657_5:=My.up HB.out hx657_5;replace hx657_6:=My.up HB.out hx657_6;replace hx657_7:=My.up HB.out hx657_7;replace p657:=eq_true p657;replace q657:=eq_true q657;have p662:0≤(x7_1:Int):=of_decide_eq_true My.as;have q662:x7_1 < (l1.length:Int):=of_decide_eq_true My.as;obtain⟨ad662,e662,hx662_0,hx662_1,hx662_2,hx662_3,hx662_4,hx662_5,hx662_6,hx662_7⟩:=at_T54 HR1.out x7_1 p662 q662;(try rw [←Nbq7.out] at hx662_1);obtain rfl:ad656=ad662:=(by injection e662);replace hx662_0:=My.up HB.out hx662_0;replace hx662_1:=My.up HB.out hx662_1;replace hx662_2:=My.up HB.out hx662_2;replace hx662_3:=My.up HB.out hx662_3;replace hx662_4:=My.up HB.out hx662_4;replace hx662_5:=My.up HB.out hx662_5;replace hx662_6:=My.up HB.out hx662_6;replace hx662_7:=My.up HB.out hx662_7;replace p662:=eq_true p662;replace q662:=eq_true q662;obtain⟨Ao13,co13,eo13⟩:=Kd.V_slice HO_0.out;subst eo13
              go_wp2_with (first|((with_reducible refine gate_callee (f:=29) rfl ?_);refine goesL_ (some 40) rfl rfl Try.func29 (by kernel_rfl) rfl #[.slice Ao13 x0_1.length co13,.agg #[.string ((rd_T54 l1 x7_1).f2.f0),.string ((rd_T54 l1 x7_1).f2.f1),.int .i64 ((rd_T54 l1 x7_1).f2.f2),.int .i64 ((rd_T54 l1 x7_1).f2.f3),.int .i64 ((rd_T54 l1 x7_1).f2.f4),.int .i64 ((rd_T54 l1 x7_1).f2.f5)]] rfl My.ar ?_;(with_reducible refine(batonref04_Lay.calls k1 _ _ x0_1 ((rd_T54 l1 x7_1).f2.f0) ((rd_T54 l1 x7_1).f2.f1) ((rd_T54 l1 x7_1).f2.f2) ((rd_T54 l1 x7_1).f2.f3) ((rd_T54 l1 x7_1).f2.f4) ((rd_T54 l1 x7_1).f2.f5) t663 _ ?side1 ?side2 A12.out).mono ?_);(case side1=> repeat(first|exact(Kd.V_reads' HO_0.out).2.2|(with_reducible refine Kd.C_alloc ?_ _)|(with_reducible refine Kd.C_drewN ?_ _)|(with_reducible refine Kd.C_drew ?_)));(case side2=> exact(Kd.V_reads' HO_0.out).2.1);rintro e w14 ⟨v664,rfl,ho0,hb⟩;refine⟨_,rfl,?_⟩;replace HO_0:=My.m (Kd.V_elder' (My.Va HO_0.out) (Kd.R_base ho0) hb);have HO665:=My.m (Kd.R_lower (Kd.R_newM (M:=fun k_=> (w.heap.size≤k_)) ho0 (below_size My.bB) (fun k_ h_=> h_)) (below_size My.bB));replace HB:=My.m (below_step My.bB hb);(repeat first|clear hb|clear hb2|clear hk|clear hi|clear ho0)))
              go_roundg k1
              case measure=> have:=HK1.out;omega
              case rel=> exact⟨(t663),(wrap64 (x7_1 + 1)),My.q0,H',⟨by have:=HK1.out;omega⟩,⟨Kd.V_mono (Kd.R_V (by(with_reducible repeat(first|apply Kd.R_alloc|apply Kd.R_drewN|apply Kd.R_drew));exact Kd.R_mono HO665.out (fun _ hk=> hk.1))) (fun k_ hk=> by first|exact⟨(.inr (hk.1)),hk.2⟩|exact(.inr (hk)))⟩,⟨My.bB⟩⟩
        · exact My.no c5 H
      · rw [if_neg c4] at H
        have c4b0:=decide_eq_false c4;clear c4;obtain rfl:=Option.some.inj H
        go_wp2
        go_ret
        exact⟨_,My.q1,My.Va HO_0.out,My.bB⟩

end Go.Proofs.Ytaebmmjhokjdbaa.PM
