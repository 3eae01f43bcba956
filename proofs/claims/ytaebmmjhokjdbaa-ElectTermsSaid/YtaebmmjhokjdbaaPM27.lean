import Derived.Test.YtaebmmjhokjdbaaPM0
namespace Go.Proofs.Ytaebmmjhokjdbaa.PM
open Go.RowKit Go.Proofs.YtaebmmjhokjdbaaW.PrintWords Go.Proofs.YtaebmmjhokjdbaaW.PrintLast Go.Proofs.YtaebmmjhokjdbaaW.PrintMore
attribute [local go_sem] max2_int min2_int max_two min_two max_three min_three max_four min_four
attribute [local go_sem high] Go.Proofs.Ytaebmmjhokjdbaa.My.str_leq Go.Proofs.Ytaebmmjhokjdbaa.My.str_gtr Go.Proofs.Ytaebmmjhokjdbaa.My.str_geq
set_option linter.unusedVariables false
set_option linter.unusedSimpArgs false

/-! ### batonref04_Take: function 54 -/
def batonref04_Take.l0:Nat→List (S26)→ByteArray→List (S26)→Bool→Int→Option ((List (S26)))
  |0,_,_,_,_,_=> none
  |k + 1,x0,x1,x5,x6,x7=> if x7 < (x0.length:Int) then (if x6=true then (if 0≤x7 then (if x5.length < 2199023255552 then (batonref04_Take.l0 k x0 x1 (x5 ++ [(⟨(rd_T26 x0 x7).f0,(rd_T26 x0 x7).f1,(rd_T26 x0 x7).f2,(rd_T26 x0 x7).f3,(rd_T26 x0 x7).f4,(rd_T26 x0 x7).f5⟩:S26)]) x6 (wrap64 (x7 + 1))) else (none)) else (none)) else (if 0≤x7 then (if ((rd_T26 x0 x7).f0).toList=x1.toList then (batonref04_Take.l0 k x0 x1 x5 true (wrap64 (x7 + 1))) else (if x5.length < 2199023255552 then (batonref04_Take.l0 k x0 x1 (x5 ++ [(⟨(rd_T26 x0 x7).f0,(rd_T26 x0 x7).f1,(rd_T26 x0 x7).f2,(rd_T26 x0 x7).f3,(rd_T26 x0 x7).f4,(rd_T26 x0 x7).f5⟩:S26)]) x6 (wrap64 (x7 + 1))) else (none))) else (none))) else (some x5)
def batonref04_Take.f (k:Nat) (l0:List (S26)) (a1:ByteArray):Option ((List (S26))):=batonref04_Take.l0 k l0 a1 (([]:List (S26))) false 0
theorem batonref04_Take.mono_l:∀k,(∀y0 y1 y2 y3 y4,LeO (batonref04_Take.l0 k y0 y1 y2 y3 y4) (batonref04_Take.l0 (k + 1) y0 y1 y2 y3 y4))
  |0=> fun _ _ _ _ _ r h=> by simp [batonref04_Take.l0] at h
  |k + 1=> by
    have ih0:=batonref04_Take.mono_l k
    · intro y0 y1 y2 y3 y4
      unfold batonref04_Take.l0
      exact My.mono_
theorem batonref04_Take.mono:∀a0 a1 k,LeO (batonref04_Take.f k a0 a1) (batonref04_Take.f (k + 1) a0 a1):=by
  intro a0 a1 k
  have ih0:=batonref04_Take.mono_l k
  unfold batonref04_Take.f
  exact My.mono_
set_option maxHeartbeats 80000000 in
set_option maxRecDepth 100000 in
theorem batonref04_Take.calls (k:Nat) (A0:Option Addr) (c0:Nat) (l0:List (S26)) (a1:ByteArray) (r:List (S26)) (w:World) (hr0:Kd.C k26 w A0 l0.length l0) (hc0:l0.length≤c0) (h:batonref04_Take.f k l0 a1=some r):
    Calls Try.prog 54 #[.slice A0 l0.length c0,.string a1] w fun e w'=> ∃v0_:Value,e= .returned (v0_)∧Kd.R k26 26 w' w.heap.size (fun _=> True) v0_ r∧Below w.heap.size w w':=by
  have hu26:=Try.underlying26;have HR0:=Aside0.mk hr0;have HC0:=Aside0.mk hc0;clear hr0 hc0;have HB:=My.m (Below.refl w.heap.size w);have H:=h;clear h;unfold batonref04_Take.f at H;obtain⟨y562,hy_⟩:∃y_:List (S26),y_=(([]:List (S26))):=⟨_,rfl⟩;replace H:(batonref04_Take.l0 k l0 a1 y562 false 0)=some r:=My.hr;have Ny562:=Aside0.mk hy_;clear hy_;have H':=Aside0.mk H;clear H
  go_enter Try.func54,Try.ntmps54
  go_wp2_with (first|((with_reducible refine gate_dst (N:=8) rfl ?_);refine Kd.R_lit k26 _ 26 ?hg (N:=8) ?hd (xs:=([]:List (S26))) (inner:= []) (ok:=fun _=> True) (okp:=fun _=> True) ?hr ?hp (fun _ hk=> hk) trivial (Below.refl _ _) (Nat.le_refl _) (by simp) ?_;(case hd=> rfl);(case hg=> rfl);(case hr=> first|(go_simp;done)|(go_simp;rfl));(case hp=> exact(Reps.none _ _));intro v563 w3 ho4 hb hg_ hnew_;clear hg_ hnew_;(first|rw [←Ny562.out] at ho4|(simp only [Int.reduceToNat] at ho4;rw [←Ny562.out] at ho4));have HO564:=My.m (Kd.R_lower ho4 (below_size My.bB));replace HB:=My.m (below_step My.bB hb);clear hb ho4))
  go_loopg [5,6,7] k (fun kq v5 v6 v7 w'=> ∃(x5_1:List (S26)) (x6_1:Bool) (x7_1:Int),v6= .bool x6_1∧v7= .int .i64 x7_1∧Aside0 (batonref04_Take.l0 kq l0 a1 x5_1 x6_1 x7_1=some r)∧Aside0 (kq≤k)∧Aside0 (Kd.R k26 26 w' w.heap.size (fun _=> True) v5 x5_1)∧Aside0 (Below w.heap.size w w'))
  case atStart=> exact⟨(y562),(false),(0),My.q0,My.q0,H',⟨Nat.le_refl _⟩,⟨My.Ra HO564.out⟩,⟨My.bB⟩⟩
  case round=>
    clear H';(try clear p2);obtain⟨x5_1,x6_1,x7_1,rfl,rfl,HA,HK1,HO_5,HB⟩:=hrel
    cases gk with
    |zero=> exact absurd HA.out (by simp [batonref04_Take.l0])
    |succ k1=>
      have H:=HA.out;clear HA;simp only [batonref04_Take.l0] at H
      by_cases c5:x7_1 < (l0.length:Int)
      · rw [if_pos c5] at H
        have c5b0:=decide_eq_true c5;clear c5
        by_cases c6:x6_1=true
        · subst c6
          rw [if_pos rfl] at H
          by_cases c7:0≤x7_1
          · rw [if_pos c7] at H
            have c7b0:=decide_eq_true c7;clear c7
            by_cases c8:x5_1.length < 2199023255552
            · rw [if_pos c8] at H
              have LMc8:=Aside0.mk c8;clear c8;obtain⟨y566,hy_⟩:∃y_:List (S26),y_=(x5_1 ++ [(⟨(rd_T26 l0 x7_1).f0,(rd_T26 l0 x7_1).f1,(rd_T26 l0 x7_1).f2,(rd_T26 l0 x7_1).f3,(rd_T26 l0 x7_1).f4,(rd_T26 l0 x7_1).f5⟩:S26)]):=⟨_,rfl⟩;replace H:(batonref04_Take.l0 k1 l0 a1 y566 true (wrap64 (x7_1 + 1)))=some r:=My.hr;have Ny566:=Aside0.mk hy_;clear hy_;have H':=Aside0.mk H;clear H;have p565:0≤(x7_1:Int):=of_decide_eq_true My.as;have q565:x7_1 < (l0.length:Int):=of_decide_eq_true My.as;obtain⟨ad565,e565,hx565_0,hx565_1,hx565_2,hx565_3,hx565_4,hx565_5⟩:=at_T26 HR0.out x7_1 p565 q565;cases e565;replace hx565_0:=My.up HB.out hx565_0;replace hx565_1:=My.up HB.out hx565_1;replace hx565_2:=My.up HB.out hx565_2;replace hx565_3:=My.up HB.out hx565_3;replace hx565_4:=My.up HB.out hx565_4;replace hx565_5:=My.up HB.out hx565_5;replace p565:=eq_true p565;replace q565:=eq_true q565
              go_wp2_with (first|((with_reducible refine gate_builtin (b:= .append) (xs:= #[.tmp 26,.tmp 31]) rfl ?_);at_builtin;refine Kd.R_append k26 (w0:=w) w.heap.size rfl (.tmp 26) (.tmp 31) 22 26 (.agg #[(.string ⟨#[]⟩),(.string ⟨#[]⟩),(.int .i64 0),(.int .i64 0),(.int .i64 0),(.int .i64 0)]) 64 rfl Try.underlying22 info26 rfl (by decide) (by omega) u5 x5_1 (⟨(rd_T26 l0 x7_1).f0,(rd_T26 l0 x7_1).f1,(rd_T26 l0 x7_1).f2,(rd_T26 l0 x7_1).f3,(rd_T26 l0 x7_1).f4,(rd_T26 l0 x7_1).f5⟩:S26) [.string ((rd_T26 l0 x7_1).f0),.string ((rd_T26 l0 x7_1).f1),.int .i64 ((rd_T26 l0 x7_1).f2),.int .i64 ((rd_T26 l0 x7_1).f3),.int .i64 ((rd_T26 l0 x7_1).f4),.int .i64 ((rd_T26 l0 x7_1).f5)] (fun _=> True) (fun _=> False) rfl rfl ?aP (fun _ hk=> hk.elim) ?aF ?aO ?aB ?aS ?aL ?_;(case aP=> exact k26_mkM _ _ _ (⟨(rd_T26 l0 x7_1).f0,(rd_T26 l0 x7_1).f1,(rd_T26 l0 x7_1).f2,(rd_T26 l0 x7_1).f3,(rd_T26 l0 x7_1).f4,(rd_T26 l0 x7_1).f5⟩:S26));(case aB=> exact My.bB);(case aF=> exact(fun _ _=> trivial));(case aO=> exact(My.Ra HO_5.out));(case aS=> exact(below_size My.bB));(case aL=> have:=LMc8.out;omega);intro v567 w9 ho hb hg hat;rw [←Ny566.out] at ho;replace HB:=My.m hb;have HO568:=My.m ho;clear HO_5;clear ho hb hg hat))
              go_roundg k1
              case measure=> have:=HK1.out;omega
              case rel=> exact⟨(y566),(true),(wrap64 (x7_1 + 1)),My.q0,My.q0,H',⟨by have:=HK1.out;omega⟩,⟨My.Ra HO568.out⟩,⟨My.bB⟩⟩
            · exact My.no c8 H
          · exact My.no c7 H
        · replace c6:=Bool.eq_false_iff.mpr c6
          subst c6;rw [if_neg (show¬(false=true) by decide)] at H
          by_cases c10:0≤x7_1
          · rw [if_pos c10] at H
            have c10b0:=decide_eq_true c10;clear c10
            by_cases c11:((rd_T26 l0 x7_1).f0).toList=a1.toList
            · rw [if_pos c11] at H
              have c11b0:(((rd_T26 l0 x7_1).f0).toList == a1.toList)=true:=beq_iff_eq.mpr c11;have c11b1:(((rd_T26 l0 x7_1).f0).toList != a1.toList)=false:=bne_eq_false_iff_eq.mpr c11;clear c11;have H':=Aside0.mk H;clear H;have p569:0≤(x7_1:Int):=of_decide_eq_true My.as;have q569:x7_1 < (l0.length:Int):=of_decide_eq_true My.as;obtain⟨ad569,e569,hx569_0,hx569_1,hx569_2,hx569_3,hx569_4,hx569_5⟩:=at_T26 HR0.out x7_1 p569 q569;cases e569;replace hx569_0:=My.up HB.out hx569_0;replace hx569_1:=My.up HB.out hx569_1;replace hx569_2:=My.up HB.out hx569_2;replace hx569_3:=My.up HB.out hx569_3;replace hx569_4:=My.up HB.out hx569_4;replace hx569_5:=My.up HB.out hx569_5;replace p569:=eq_true p569;replace q569:=eq_true q569
              go_wp2
              go_roundg k1
              case measure=> have:=HK1.out;omega
              case rel=> exact⟨(x5_1),(true),(wrap64 (x7_1 + 1)),My.q0,My.q0,H',⟨by have:=HK1.out;omega⟩,⟨My.Ra HO_5.out⟩,⟨My.bB⟩⟩
            · rw [if_neg c11] at H
              have c11b0:(((rd_T26 l0 x7_1).f0).toList == a1.toList)=false:=beq_eq_false_iff_ne.mpr c11;have c11b1:(((rd_T26 l0 x7_1).f0).toList != a1.toList)=true:=bne_iff_ne.mpr c11
              by_cases c12:x5_1.length < 2199023255552
              · rw [if_pos c12] at H
                have LMc12:=Aside0.mk c12;clear c12;obtain⟨y571,hy_⟩:∃y_:List (S26),y_=(x5_1 ++ [(⟨(rd_T26 l0 x7_1).f0,(rd_T26 l0 x7_1).f1,(rd_T26 l0 x7_1).f2,(rd_T26 l0 x7_1).f3,(rd_T26 l0 x7_1).f4,(rd_T26 l0 x7_1).f5⟩:S26)]):=⟨_,rfl⟩;replace H:(batonref04_Take.l0 k1 l0 a1 y571 false (wrap64 (x7_1 + 1)))=some r:=My.hr;have Ny571:=Aside0.mk hy_;clear hy_;have H':=Aside0.mk H;clear H;have p569:0≤(x7_1:Int):=of_decide_eq_true My.as;have q569:x7_1 < (l0.length:Int):=of_decide_eq_true My.as;obtain⟨ad569,e569,hx569_0,hx569_1,hx569_2,hx569_3,hx569_4,hx569_5⟩:=at_T26 HR0.out x7_1 p569 q569;cases e569;replace hx569_0:=My.up HB.out hx569_0;replace hx569_1:=My.up HB.out hx569_1;replace hx569_2:=My.up HB.out hx569_2;replace hx569_3:=My.up HB.out hx569_3;replace hx569_4:=My.up HB.out hx569_4;replace hx569_5:=My.up HB.out hx569_5;replace p569:=eq_true p569;replace q569:=eq_true q569;have p570:0≤(x7_1:Int):=of_decide_eq_true My.as;have q570:x7_1 < (l0.length:Int):=of_decide_eq_true My.as;obtain⟨ad570,e570,hx570_0,hx570_1,hx570_2,hx570_3,hx570_4,hx570_5⟩:=at_T26 HR0.out x7_1 p570 q570;obtain rfl:ad569=ad570:=(by injection e570);replace hx570_0:=My.up HB.out hx570_0;replace hx570_1:=My.up HB.out hx570_1;replace hx570_2:=My.up HB.out hx570_2;replace hx570_3:=My.up HB.out hx570_3;replace hx570_4:=My.up HB.out hx570_4;replace hx570_5:=My.up HB.out hx570_5;replace p570:=eq_true p570;replace q570:=eq_true q570
                go_wp2_with (first|((with_reducible refine gate_builtin (b:= .append) (xs:= #[.tmp 26,.tmp 31]) rfl ?_);at_builtin;refine Kd.R_append k26 (w0:=w) w.heap.size rfl (.tmp 26) (.tmp 31) 22 26 (.agg #[(.string ⟨#[]⟩),(.string ⟨#[]⟩),(.int .i64 0),(.int .i64 0),(.int .i64 0),(.int .i64 0)]) 64 rfl Try.underlying22 info26 rfl (by decide) (by omega) u5 x5_1 (⟨(rd_T26 l0 x7_1).f0,(rd_T26 l0 x7_1).f1,(rd_T26 l0 x7_1).f2,(rd_T26 l0 x7_1).f3,(rd_T26 l0 x7_1).f4,(rd_T26 l0 x7_1).f5⟩:S26) [.string ((rd_T26 l0 x7_1).f0),.string ((rd_T26 l0 x7_1).f1),.int .i64 ((rd_T26 l0 x7_1).f2),.int .i64 ((rd_T26 l0 x7_1).f3),.int .i64 ((rd_T26 l0 x7_1).f4),.int .i64 ((rd_T26 l0 x7_1).f5)] (fun _=> True) (fun _=> False) rfl rfl ?aP (fun _ hk=> hk.elim) ?aF ?aO ?aB ?aS ?aL ?_;(case aP=> exact k26_mkM _ _ _ (⟨(rd_T26 l0 x7_1).f0,(rd_T26 l0 x7_1).f1,(rd_T26 l0 x7_1).f2,(rd_T26 l0 x7_1).f3,(rd_T26 l0 x7_1).f4,(rd_T26 l0 x7_1).f5⟩:S26));(case aB=> exact My.bB);(case aF=> exact(fun _ _=> trivial));(case aO=> exact(My.Ra HO_5.out));(case aS=> exact(below_size My.bB));(case aL=> have:=LMc12.out;omega);intro v572 w13 ho hb hg hat;rw [←Ny571.out] at ho;replace HB:=My.m hb;have HO573:=My.m ho;clear HO_5;clear ho hb hg hat))
                go_roundg k1
                case measure=> have:=HK1.out;omega
                case rel=> exact⟨(y571),(false),(wrap64 (x7_1 + 1)),My.q0,My.q0,H',⟨by have:=HK1.out;omega⟩,⟨My.Ra HO573.out⟩,⟨My.bB⟩⟩
              · exact My.no c12 H
          · exact My.no c10 H
      · rw [if_neg c5] at H
        have c5b0:=decide_eq_false c5;clear c5;obtain rfl:=Option.some.inj H
        go_wp2
        go_ret
        exact⟨_,My.q1,My.Ra HO_5.out,My.bB⟩

end Go.Proofs.Ytaebmmjhokjdbaa.PM
