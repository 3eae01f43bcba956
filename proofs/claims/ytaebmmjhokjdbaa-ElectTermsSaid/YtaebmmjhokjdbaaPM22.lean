import Derived.Test.YtaebmmjhokjdbaaPM0
namespace Go.Proofs.Ytaebmmjhokjdbaa.PM
open Go.RowKit Go.Proofs.YtaebmmjhokjdbaaW.PrintWords Go.Proofs.YtaebmmjhokjdbaaW.PrintLast Go.Proofs.YtaebmmjhokjdbaaW.PrintMore
attribute [local go_sem] max2_int min2_int max_two min_two max_three min_three max_four min_four
attribute [local go_sem high] Go.Proofs.Ytaebmmjhokjdbaa.My.str_leq Go.Proofs.Ytaebmmjhokjdbaa.My.str_gtr Go.Proofs.Ytaebmmjhokjdbaa.My.str_geq
set_option linter.unusedVariables false
set_option linter.unusedSimpArgs false

/-! ### batonref04_From: function 26 -/
def batonref04_From.l0:Nat→List (S26)→ByteArray→List (S26)→Int→Option ((List (S26)))
  |0,_,_,_,_=> none
  |k + 1,x0,x1,x5,x6=> if x6 < (x0.length:Int) then (if 0≤x6 then (if (((rd_T26 x0 x6).f0).size:Int)≥(x1.size:Int) then (if 0≤(x1.size:Int) then (if (x1.size:Int)≤(((rd_T26 x0 x6).f0).size:Int) then (if (((rd_T26 x0 x6).f0).extract 0 ((x1.size:Int):Int).toNat).toList=x1.toList then (if x5.length < 2199023255552 then (batonref04_From.l0 k x0 x1 (x5 ++ [(⟨(rd_T26 x0 x6).f0,(rd_T26 x0 x6).f1,(rd_T26 x0 x6).f2,(rd_T26 x0 x6).f3,(rd_T26 x0 x6).f4,(rd_T26 x0 x6).f5⟩:S26)]) (wrap64 (x6 + 1))) else (none)) else (batonref04_From.l0 k x0 x1 x5 (wrap64 (x6 + 1)))) else (none)) else (none)) else (batonref04_From.l0 k x0 x1 x5 (wrap64 (x6 + 1)))) else (none)) else (some x5)
def batonref04_From.f (k:Nat) (l0:List (S26)) (a1:ByteArray):Option ((List (S26))):=batonref04_From.l0 k l0 a1 ([]:List (S26)) 0
theorem batonref04_From.mono_l:∀k,(∀y0 y1 y2 y3,LeO (batonref04_From.l0 k y0 y1 y2 y3) (batonref04_From.l0 (k + 1) y0 y1 y2 y3))
  |0=> fun _ _ _ _ r h=> by simp [batonref04_From.l0] at h
  |k + 1=> by
    have ih0:=batonref04_From.mono_l k
    · intro y0 y1 y2 y3
      unfold batonref04_From.l0
      exact My.mono_
theorem batonref04_From.mono:∀a0 a1 k,LeO (batonref04_From.f k a0 a1) (batonref04_From.f (k + 1) a0 a1):=by
  intro a0 a1 k
  have ih0:=batonref04_From.mono_l k
  unfold batonref04_From.f
  exact My.mono_
set_option maxHeartbeats 80000000 in
set_option maxRecDepth 100000 in
theorem batonref04_From.calls (k:Nat) (A0:Option Addr) (c0:Nat) (l0:List (S26)) (a1:ByteArray) (r:List (S26)) (w:World) (hr0:Kd.C k26 w A0 l0.length l0) (hc0:l0.length≤c0) (h:batonref04_From.f k l0 a1=some r):
    Calls Try.prog 26 #[.slice A0 l0.length c0,.string a1] w fun e w'=> ∃v0_:Value,e= .returned (v0_)∧Kd.R k26 26 w' w.heap.size (fun _=> True) v0_ r∧Below w.heap.size w w':=by
  have hu26:=Try.underlying26;have HR0:=Aside0.mk hr0;have HC0:=Aside0.mk hc0;clear hr0 hc0;have HB:=My.m (Below.refl w.heap.size w);have H:=h;clear h;unfold batonref04_From.f at H;have H':=Aside0.mk H;clear H
  go_enter Try.func26,Try.ntmps26
  go_wp2
  go_loopg [5,6] k (fun kq v5 v6 w'=> ∃(x5_1:List (S26)) (x6_1:Int),v6= .int .i64 x6_1∧Aside0 (batonref04_From.l0 kq l0 a1 x5_1 x6_1=some r)∧Aside0 (kq≤k)∧Aside0 (Kd.R k26 26 w' w.heap.size (fun _=> True) v5 x5_1)∧Aside0 (Below w.heap.size w w'))
  case atStart=> exact⟨(([]:List (S26))),(0),My.q0,H',⟨Nat.le_refl _⟩,⟨by first|exact Kd.R_nil _ _ _ _ _|exact Kd.N_nil _ _ _ _ _|exact Kd.V_nil _ _ _ _ _|exact Kd.Q_nil _ _ _ _ _|exact Kd.S_nil _ _ _ _ _⟩,⟨My.bB⟩⟩
  case round=>
    clear H';(try clear c2);(try clear p2);obtain⟨x5_1,x6_1,rfl,HA,HK1,HO_5,HB⟩:=hrel
    cases gk with
    |zero=> exact absurd HA.out (by simp [batonref04_From.l0])
    |succ k1=>
      have H:=HA.out;clear HA;simp only [batonref04_From.l0] at H
      by_cases c3:x6_1 < (l0.length:Int)
      · rw [if_pos c3] at H
        have c3b0:=decide_eq_true c3;clear c3
        by_cases c4:0≤x6_1
        · rw [if_pos c4] at H
          have c4b0:=decide_eq_true c4;clear c4
          by_cases c5:(((rd_T26 l0 x6_1).f0).size:Int)≥(a1.size:Int)
          · rw [if_pos c5] at H
            have c5b0:=decide_eq_true c5;have c5b1:decide (a1.size≤((rd_T26 l0 x6_1).f0).size)=true:=decide_eq_true (Int.ofNat_le.mp c5);clear c5
            by_cases c6:0≤(a1.size:Int)
            · rw [if_pos c6] at H
              have c6b0:=eq_true c6;have c6b1:decide (0≤(a1.size:Int))=true:=decide_eq_true c6;clear c6
              by_cases c7:(a1.size:Int)≤(((rd_T26 l0 x6_1).f0).size:Int)
              · rw [if_pos c7] at H
                have c7b0:=eq_true c7;have c7b1:decide ((a1.size:Int)≤(((rd_T26 l0 x6_1).f0).size:Int))=true:=decide_eq_true c7;clear c7
                by_cases c8:(((rd_T26 l0 x6_1).f0).extract 0 ((a1.size:Int):Int).toNat).toList=a1.toList
                · rw [if_pos c8] at H
                  have c8b0:((((rd_T26 l0 x6_1).f0).extract 0 ((a1.size:Int):Int).toNat).toList == a1.toList)=true:=beq_iff_eq.mpr c8;(try(have c8b5:=c8b0;simp only [Int.toNat_natCast] at c8b5));have c8b1:((((rd_T26 l0 x6_1).f0).extract 0 ((a1.size:Int):Int).toNat).toList != a1.toList)=false:=bne_eq_false_iff_eq.mpr c8;(try(have c8b6:=c8b1;simp only [Int.toNat_natCast] at c8b6));clear c8
                  by_cases c9:x5_1.length < 2199023255552
                  · rw [if_pos c9] at H
                    have LMc9:=Aside0.mk c9;clear c9;obtain⟨y445,hy_⟩:∃y_:List (S26),y_=(x5_1 ++ [(⟨(rd_T26 l0 x6_1).f0,(rd_T26 l0 x6_1).f1,(rd_T26 l0 x6_1).f2,(rd_T26 l0 x6_1).f3,(rd_T26 l0 x6_1).f4,(rd_T26 l0 x6_1).f5⟩:S26)]):=⟨_,rfl⟩;replace H:(batonref04_From.l0 k1 l0 a1 y445 (wrap64 (x6_1 + 1)))=some r:=My.hr;have Ny445:=Aside0.mk hy_;clear hy_;have H':=Aside0.mk H;clear H;have p442:0≤(x6_1:Int):=of_decide_eq_true My.as;have q442:x6_1 < (l0.length:Int):=of_decide_eq_true My.as;obtain⟨ad442,e442,hx442_0,hx442_1,hx442_2,hx442_3,hx442_4,hx442_5⟩:=at_T26 HR0.out x6_1 p442 q442;cases e442;replace hx442_0:=My.up HB.out hx442_0;replace hx442_1:=My.up HB.out hx442_1;replace hx442_2:=My.up HB.out hx442_2;replace hx442_3:=My.up HB.out hx442_3;replace hx442_4:=My.up HB.out hx442_4;replace hx442_5:=My.up HB.out hx442_5;replace p442:=eq_true p442;replace q442:=eq_true q442;have p443:0≤(x6_1:Int):=of_decide_eq_true My.as;have q443:x6_1 < (l0.length:Int):=of_decide_eq_true My.as;obtain⟨ad443,e443,hx443_0,hx443_1,hx443_2,hx443_3,hx443_4,hx443_5⟩:=at_T26 HR0.out x6_1 p443 q443;obtain rfl:ad442=ad443:=(by injection e443);replace hx443_0:=My.up HB.out hx443_0;replace hx443_1:=My.up HB.out hx443_1;replace hx443_2:=My.up HB.out hx443_2;replace hx443_3:=My.up HB.out hx443_3;replace hx443_4:=My.up HB.out hx443_4;replace hx443_5:=My.up HB.out hx443_5;replace p443:=eq_true p443;replace q443:=eq_true q443;have p444:0≤(x6_1:Int):=of_decide_eq_true My.as;have q444:x6_1 < (l0.length:Int):=of_decide_eq_true My.as;obtain⟨ad444,e444,hx444_0,hx444_1,hx444_2,hx444_3,hx444_4,hx444_5⟩:=at_T26 HR0.out x6_1 p444 q444;obtain rfl:ad442=ad444:=(by injection e444);replace hx444_0:=My.up HB.out hx444_0;replace hx444_1:=My.up HB.out hx444_1;replace hx444_2:=My.up HB.out hx444_2;replace hx444_3:=My.up HB.out hx444_3;replace hx444_4:=My.up HB.out hx444_4;replace hx444_5:=My.up HB.out hx444_5;replace p444:=eq_true p444;replace q444:=eq_true q444
                    go_wp2_with (first|((with_reducible refine gate_builtin (b:= .append) (xs:= #[.tmp 34,.tmp 39]) rfl ?_);(try(refine gate_guard (by rfl) ?_;dsimp only));at_builtin;refine Kd.R_append k26 (w0:=w) w.heap.size rfl (.tmp 34) (.tmp 39) 22 26 (.agg #[(.string ⟨#[]⟩),(.string ⟨#[]⟩),(.int .i64 0),(.int .i64 0),(.int .i64 0),(.int .i64 0)]) 64 rfl Try.underlying22 info26 rfl (by decide) (by omega) u5 x5_1 (⟨(rd_T26 l0 x6_1).f0,(rd_T26 l0 x6_1).f1,(rd_T26 l0 x6_1).f2,(rd_T26 l0 x6_1).f3,(rd_T26 l0 x6_1).f4,(rd_T26 l0 x6_1).f5⟩:S26) [.string ((rd_T26 l0 x6_1).f0),.string ((rd_T26 l0 x6_1).f1),.int .i64 ((rd_T26 l0 x6_1).f2),.int .i64 ((rd_T26 l0 x6_1).f3),.int .i64 ((rd_T26 l0 x6_1).f4),.int .i64 ((rd_T26 l0 x6_1).f5)] (fun _=> True) (fun _=> False) rfl rfl ?aP (fun _ hk=> hk.elim) ?aF ?aO ?aB ?aS ?aL ?_;(case aP=> exact k26_mkM _ _ _ (⟨(rd_T26 l0 x6_1).f0,(rd_T26 l0 x6_1).f1,(rd_T26 l0 x6_1).f2,(rd_T26 l0 x6_1).f3,(rd_T26 l0 x6_1).f4,(rd_T26 l0 x6_1).f5⟩:S26));(case aB=> exact My.bB);(case aF=> exact(fun _ _=> trivial));(case aO=> exact(My.Ra HO_5.out));(case aS=> exact(below_size My.bB));(case aL=> have:=LMc9.out;omega);intro v446 w10 ho hb hg hat;rw [←Ny445.out] at ho;replace HB:=My.m hb;have HO447:=My.m ho;clear HO_5;clear ho hb hg hat))
                    go_roundg k1
                    case measure=> have:=HK1.out;omega
                    case rel=> exact⟨(y445),(wrap64 (x6_1 + 1)),My.q0,H',⟨by have:=HK1.out;omega⟩,⟨My.Ra HO447.out⟩,⟨My.bB⟩⟩
                  · exact My.no c9 H
                · rw [if_neg c8] at H
                  have c8b0:((((rd_T26 l0 x6_1).f0).extract 0 ((a1.size:Int):Int).toNat).toList == a1.toList)=false:=beq_eq_false_iff_ne.mpr c8;(try(have c8b5:=c8b0;simp only [Int.toNat_natCast] at c8b5));have c8b1:((((rd_T26 l0 x6_1).f0).extract 0 ((a1.size:Int):Int).toNat).toList != a1.toList)=true:=bne_iff_ne.mpr c8;(try(have c8b6:=c8b1;simp only [Int.toNat_natCast] at c8b6));have H':=Aside0.mk H;clear H;have p442:0≤(x6_1:Int):=of_decide_eq_true My.as;have q442:x6_1 < (l0.length:Int):=of_decide_eq_true My.as;obtain⟨ad442,e442,hx442_0,hx442_1,hx442_2,hx442_3,hx442_4,hx442_5⟩:=at_T26 HR0.out x6_1 p442 q442;cases e442;replace hx442_0:=My.up HB.out hx442_0;replace hx442_1:=My.up HB.out hx442_1;replace hx442_2:=My.up HB.out hx442_2;replace hx442_3:=My.up HB.out hx442_3;replace hx442_4:=My.up HB.out hx442_4;replace hx442_5:=My.up HB.out hx442_5;replace p442:=eq_true p442;replace q442:=eq_true q442;have p443:0≤(x6_1:Int):=of_decide_eq_true My.as;have q443:x6_1 < (l0.length:Int):=of_decide_eq_true My.as;obtain⟨ad443,e443,hx443_0,hx443_1,hx443_2,hx443_3,hx443_4,hx443_5⟩:=at_T26 HR0.out x6_1 p443 q443;obtain rfl:ad442=ad443:=(by injection e443);replace hx443_0:=My.up HB.out hx443_0;replace hx443_1:=My.up HB.out hx443_1;replace hx443_2:=My.up HB.out hx443_2;replace hx443_3:=My.up HB.out hx443_3;replace hx443_4:=My.up HB.out hx443_4;replace hx443_5:=My.up HB.out hx443_5;replace p443:=eq_true p443;replace q443:=eq_true q443
                  go_wp2
                  go_roundg k1
                  case measure=> have:=HK1.out;omega
                  case rel=> exact⟨(x5_1),(wrap64 (x6_1 + 1)),My.q0,H',⟨by have:=HK1.out;omega⟩,⟨My.Ra HO_5.out⟩,⟨My.bB⟩⟩
              · exact My.no c7 H
            · exact My.no c6 H
          · rw [if_neg c5] at H
            have c5b0:=decide_eq_false c5;have c5b1:decide (a1.size≤((rd_T26 l0 x6_1).f0).size)=false:=decide_eq_false (fun h=> c5 (Int.ofNat_le.mpr h));clear c5;have H':=Aside0.mk H;clear H;have p442:0≤(x6_1:Int):=of_decide_eq_true My.as;have q442:x6_1 < (l0.length:Int):=of_decide_eq_true My.as;obtain⟨ad442,e442,hx442_0,hx442_1,hx442_2,hx442_3,hx442_4,hx442_5⟩:=at_T26 HR0.out x6_1 p442 q442;cases e442;replace hx442_0:=My.up HB.out hx442_0;replace hx442_1:=My.up HB.out hx442_1;replace hx442_2:=My.up HB.out hx442_2;replace hx442_3:=My.up HB.out hx442_3;replace hx442_4:=My.up HB.out hx442_4;replace hx442_5:=My.up HB.out hx442_5;replace p442:=eq_true p442;replace q442:=eq_true q442
            go_wp2
            go_roundg k1
            case measure=> have:=HK1.out;omega
            case rel=> exact⟨(x5_1),(wrap64 (x6_1 + 1)),My.q0,H',⟨by have:=HK1.out;omega⟩,⟨My.Ra HO_5.out⟩,⟨My.bB⟩⟩
        · exact My.no c4 H
      · rw [if_neg c3] at H
        have c3b0:=decide_eq_false c3;clear c3;obtain rfl:=Option.some.inj H
        go_wp2
        go_ret
        exact⟨_,My.q1,My.Ra HO_5.out,My.bB⟩

end Go.Proofs.Ytaebmmjhokjdbaa.PM
