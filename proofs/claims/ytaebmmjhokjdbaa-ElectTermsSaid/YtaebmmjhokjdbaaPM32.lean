import Derived.Test.YtaebmmjhokjdbaaPM0
import Derived.Test.YtaebmmjhokjdbaaPM31
namespace Go.Proofs.Ytaebmmjhokjdbaa.PM
open Go.RowKit Go.Proofs.YtaebmmjhokjdbaaW.PrintWords Go.Proofs.YtaebmmjhokjdbaaW.PrintLast Go.Proofs.YtaebmmjhokjdbaaW.PrintMore
attribute [local go_sem] max2_int min2_int max_two min_two max_three min_three max_four min_four
attribute [local go_sem high] Go.Proofs.Ytaebmmjhokjdbaa.My.str_leq Go.Proofs.Ytaebmmjhokjdbaa.My.str_gtr Go.Proofs.Ytaebmmjhokjdbaa.My.str_geq
set_option linter.unusedVariables false
set_option linter.unusedSimpArgs false

/-! ### batonref05_May: function 23 -/
mutual
def batonref05_May.j0:Nat→Bool→Int→Int→List (S26)→List (S54)→Option (Bool)
 |0,_,_,_,_,_=> none
 |k + 1,x40,x667000,x667001,x667002,x667003=> if x40=true then (some false) else (batonref05_May.l0 k 0 x667000 x667001 x667002 x667003)
def batonref05_May.l0:Nat→Int→Int→Int→List (S26)→List (S54)→Option (Bool)
 |0,_,_,_,_,_=> none
 |k + 1,x3,x667000,x667001,x667002,x667003=> if x3 < (x667002.length:Int) then (if 0≤x3 then (if ((rd_T26 x667002 x3).f3) > x667001 then (some false) else (batonref05_May.l0 k (wrap64 (x3 + 1)) x667000 x667001 x667002 x667003)) else (none)) else (batonref05_May.l1 k x667002 x667001 0 x667000 x667001 x667002 x667003)
def batonref05_May.l1:Nat→List (S26)→Int→Int→Int→Int→List (S26)→List (S54)→Option (Bool)
 |0,_,_,_,_,_,_,_=> none
 |k + 1,x4,x5,x6,x667000,x667001,x667002,x667003=> if x6 < (x667003.length:Int) then (if 0≤x6 then (if ((rd_T54 x667003 x6).f0)≤x667001 then (batonref05_May.j3 k x4 x6 true x667000 x667001 x667002 x667003 ((rd_T54 x667003 x6).f0) ((rd_T54 x667003 x6).f1) ((rd_T54 x667003 x6).f2.f0) ((rd_T54 x667003 x6).f2.f1) ((rd_T54 x667003 x6).f2.f2) ((rd_T54 x667003 x6).f2.f3) ((rd_T54 x667003 x6).f2.f4) ((rd_T54 x667003 x6).f2.f5)) else (if ((rd_T54 x667003 x6).f0) < x5 then (batonref05_May.j3 k x4 x6 true x667000 x667001 x667002 x667003 ((rd_T54 x667003 x6).f0) ((rd_T54 x667003 x6).f1) ((rd_T54 x667003 x6).f2.f0) ((rd_T54 x667003 x6).f2.f1) ((rd_T54 x667003 x6).f2.f2) ((rd_T54 x667003 x6).f2.f3) ((rd_T54 x667003 x6).f2.f4) ((rd_T54 x667003 x6).f2.f5)) else (if ((rd_T54 x667003 x6).f0) > x667000 then (batonref05_May.j3 k x4 x6 true x667000 x667001 x667002 x667003 ((rd_T54 x667003 x6).f0) ((rd_T54 x667003 x6).f1) ((rd_T54 x667003 x6).f2.f0) ((rd_T54 x667003 x6).f2.f1) ((rd_T54 x667003 x6).f2.f2) ((rd_T54 x667003 x6).f2.f3) ((rd_T54 x667003 x6).f2.f4) ((rd_T54 x667003 x6).f2.f5)) else ((batonref05_right.f k x4 ((rd_T54 x667003 x6).f0) ((rd_T54 x667003 x6).f1) ((rd_T54 x667003 x6).f2.f0) ((rd_T54 x667003 x6).f2.f1) ((rd_T54 x667003 x6).f2.f2) ((rd_T54 x667003 x6).f2.f3) ((rd_T54 x667003 x6).f2.f4) ((rd_T54 x667003 x6).f2.f5)).bind fun t671=> (batonref05_May.j3 k x4 x6 (!t671) x667000 x667001 x667002 x667003 ((rd_T54 x667003 x6).f0) ((rd_T54 x667003 x6).f1) ((rd_T54 x667003 x6).f2.f0) ((rd_T54 x667003 x6).f2.f1) ((rd_T54 x667003 x6).f2.f2) ((rd_T54 x667003 x6).f2.f3) ((rd_T54 x667003 x6).f2.f4) ((rd_T54 x667003 x6).f2.f5)))))) else (none)) else (some true)
def batonref05_May.j3:Nat→List (S26)→Int→Bool→Int→Int→List (S26)→List (S54)→Int→Bool→ByteArray→ByteArray→Int→Int→Int→Int→Option (Bool)
 |0,_,_,_,_,_,_,_,_,_,_,_,_,_,_,_=> none
 |k + 1,x4,x6,x96,x667000,x667001,x667002,x667003,x671000,x671001,x671002,x671003,x671004,x671005,x671006,x671007=> if x96=true then (some false) else (if 0≤x6 then (if x6≤(wrap64 (x6 + 1)) then (if (wrap64 (x6 + 1))≤(x667003.length:Int) then ((batonref04_Fold.f k x4 ((x667003.take ((wrap64 (x6 + 1)):Int).toNat).drop (x6:Int).toNat) x671000).bind fun t676=> (if (t676.length:Int) > 30 then (some false) else (batonref05_May.l1 k t676 x671000 (wrap64 (x6 + 1)) x667000 x667001 x667002 x667003))) else (none)) else (none)) else (none))
end
def batonref05_May.f (k:Nat) (a0_0:Int) (a0_1:Int) (l0_2:List (S26)) (l0_3:List (S54)):Option (Bool):=if a0_1 < 0 then (batonref05_May.j0 k true a0_0 a0_1 l0_2 l0_3) else (if a0_1 > a0_0 then (batonref05_May.j0 k true a0_0 a0_1 l0_2 l0_3) else (if a0_0 > 1099511627774 then (batonref05_May.j0 k true a0_0 a0_1 l0_2 l0_3) else ((batonref04_May.f k l0_2).bind fun t667=> (if t667=true then (if (l0_2.length:Int) > 30 then (batonref05_May.j0 k true a0_0 a0_1 l0_2 l0_3) else (batonref05_May.j0 k (decide ((l0_3.length:Int) > 60)) a0_0 a0_1 l0_2 l0_3)) else (batonref05_May.j0 k true a0_0 a0_1 l0_2 l0_3)))))
theorem batonref05_May.mono_l:∀k,(∀y0 y1 y2 y3 y4,LeO (batonref05_May.j0 k y0 y1 y2 y3 y4) (batonref05_May.j0 (k + 1) y0 y1 y2 y3 y4))∧(∀y0 y1 y2 y3 y4,LeO (batonref05_May.l0 k y0 y1 y2 y3 y4) (batonref05_May.l0 (k + 1) y0 y1 y2 y3 y4))∧(∀y0 y1 y2 y3 y4 y5 y6,LeO (batonref05_May.l1 k y0 y1 y2 y3 y4 y5 y6) (batonref05_May.l1 (k + 1) y0 y1 y2 y3 y4 y5 y6))∧(∀y0 y1 y2 y3 y4 y5 y6 y7 y8 y9 y10 y11 y12 y13 y14,LeO (batonref05_May.j3 k y0 y1 y2 y3 y4 y5 y6 y7 y8 y9 y10 y11 y12 y13 y14) (batonref05_May.j3 (k + 1) y0 y1 y2 y3 y4 y5 y6 y7 y8 y9 y10 y11 y12 y13 y14))
 |0=> ⟨fun _ _ _ _ _ r h=> by simp [batonref05_May.j0] at h,fun _ _ _ _ _ r h=> by simp [batonref05_May.l0] at h,fun _ _ _ _ _ _ _ r h=> by simp [batonref05_May.l1] at h,fun _ _ _ _ _ _ _ _ _ _ _ _ _ _ _ r h=> by simp [batonref05_May.j3] at h⟩
 |k + 1=> by
  obtain⟨ih0,ih1,ih2,ih3⟩:=batonref05_May.mono_l k
  refine⟨?_,?_,?_,?_⟩
  ·intro y0 y1 y2 y3 y4
   unfold batonref05_May.j0
   have ic0:= @batonref04_Fold.mono;have ic1:= @batonref04_May.mono;have ic2:= @batonref05_right.mono;exact My.mono_
  ·intro y0 y1 y2 y3 y4
   unfold batonref05_May.l0
   have ic0:= @batonref04_Fold.mono;have ic1:= @batonref04_May.mono;have ic2:= @batonref05_right.mono;exact My.mono_
  ·intro y0 y1 y2 y3 y4 y5 y6
   unfold batonref05_May.l1
   have ic0:= @batonref04_Fold.mono;have ic1:= @batonref04_May.mono;have ic2:= @batonref05_right.mono;exact My.mono_
  ·intro y0 y1 y2 y3 y4 y5 y6 y7 y8 y9 y10 y11 y12 y13 y14
   unfold batonref05_May.j3
   have ic0:= @batonref04_Fold.mono;have ic1:= @batonref04_May.mono;have ic2:= @batonref05_right.mono;exact My.mono_
theorem batonref05_May.mono:∀a0 a1 a2 a3 k,LeO (batonref05_May.f k a0 a1 a2 a3) (batonref05_May.f (k + 1) a0 a1 a2 a3):=by
 intro a0 a1 a2 a3 k
 obtain⟨ih0,ih1,ih2,ih3⟩:=batonref05_May.mono_l k
 unfold batonref05_May.f
 have ic0:= @batonref04_Fold.mono;have ic1:= @batonref04_May.mono;have ic2:= @batonref05_right.mono;exact My.mono_
def batonref05_May.T6:Bool×List (List Nat×List Nat):=(true,[([],[]),([0],[0]),([],[]),([1,2],[1,2]),([3],[3]),([4],[4]),([],[]),([6],[6]),([5,7],[5,7])])
def batonref05_May.B6:List Nat:= [0,1,0,7,15,31,0,64,255]
theorem batonref05_May.tab6:rtab .any (opsOf Try.f23 6)=batonref05_May.T6:=by kernel_rfl
theorem batonref05_May.bits6:waitsOk batonref05_May.T6.2 batonref05_May.B6=true:=by kernel_rfl
def batonref05_May.T16:Bool×List (List Nat×List Nat):=(true,[([],[]),([],[]),([1],[1]),([],[]),([],[]),([4],[4]),([2,3,5],[2,3,5]),([],[]),([7],[7]),([0,6,8],[0,6,8]),([9,9,0,1,2,3,4,5,6,7,8,9],[0,9])])
def batonref05_May.B16:List Nat:= [0,0,2,0,0,16,62,0,128,511,1023]
theorem batonref05_May.tab16:rtab .any (opsOf Try.f23 16)=batonref05_May.T16:=by kernel_rfl
theorem batonref05_May.bits16:waitsOk batonref05_May.T16.2 batonref05_May.B16=true:=by kernel_rfl
set_option maxHeartbeats 80000000 in
set_option maxRecDepth 100000 in
theorem batonref05_May.calls (k:Nat) (a0_0:Int) (a0_1:Int) (P0_2_:Nat→Prop) (A0_2:Option Addr) (c0_2:Nat) (l0_2:List (S26)) (A0_3:Option Addr) (c0_3:Nat) (l0_3:List (S54)) (r:Bool) (w:World) (hs0_2:Kd.V k26 26 w w.heap.size (fun k_=> P0_2_ k_) (.slice A0_2 l0_2.length c0_2) l0_2) (hr0_3:Kd.C k54 w A0_3 l0_3.length l0_3) (hc0_3:l0_3.length≤c0_3) (h:batonref05_May.f k a0_0 a0_1 l0_2 l0_3=some r):
  Calls Try.prog 23 #[.agg #[.int .i64 a0_0,.int .i64 a0_1,.slice A0_2 l0_2.length c0_2,.slice A0_3 l0_3.length c0_3]] w fun e w'=> e= .returned (.bool r)∧Below w.heap.size w w':=by
 have hu42:=Try.underlying42;have hu54:=Try.underlying54;have HO0_2:=My.m (show Kd.V k26 26 w w.heap.size (fun k_=> (P0_2_ k_∨w.heap.size≤k_)) (.slice A0_2 l0_2.length c0_2) l0_2 from Kd.V_mono hs0_2 (fun k_ hk=> .inl hk));have HR0_3:=Aside0.mk hr0_3;have HC0_3:=Aside0.mk hc0_3;clear hr0_3 hc0_3;have HB:=My.m (Below.refl w.heap.size w);have H:=h;clear h;unfold batonref05_May.f at H;have HC2:=Aside0.mk H;clear H
 go_enter Try.func23,Try.ntmps23
 go_upto_region 1 with (first|((with_reducible refine gate_dst (N:=1) rfl ?_);(try(refine gate_guard (by rfl) ?_;dsimp only));refine My.be 1 42 #[.int .i64 a0_0,.int .i64 a0_1,.slice A0_2 l0_2.length c0_2,.slice A0_3 l0_3.length c0_3] ?_;intro gb666 hg w3 hbox hb;replace HO0_2:=My.m (Kd.V_below (Kd.V_elderB (My.Va HO0_2.out) gb666 (Nat.le_of_eq hg.symm)) hb);have BK666:=My.m hbox;have GW666:=My.m ((My.nw w hg My.bB));have GE666:=My.m ((My.nw w hg My.bB));replace HB:=My.m (below_step My.bB hb);clear hb hbox hg))
 (try simp only [Act.put,List.setIfInBounds_toArray,List.set_cons_zero,List.set_cons_succ])
 go_cut [40] (fun v40 wc=> ∃(kq:Nat) (x40_1:Bool),v40= .bool x40_1∧Aside0 (batonref05_May.j0 kq x40_1 a0_0 a0_1 l0_2 l0_3=some r)∧Aside0 (kq≤k)∧Aside0 (Kd.V k26 26 wc w.heap.size (fun k_=> (P0_2_ k_∨w.heap.size≤k_)∧k_≠gb666) (.slice A0_2 l0_2.length c0_2) l0_2)∧Aside0 (wc.heap[gb666]? =some (.cells #[.int .i64 a0_0,.int .i64 a0_1,(.slice A0_2 l0_2.length c0_2),(.slice A0_3 l0_3.length c0_3)] 42 (0,0)))∧Aside0 (Below w.heap.size w wc))
 case first=>
  have H:=HC2.out;clear HC2
  by_cases c4:a0_1 < 0
  ·rw [if_pos c4] at H
   have c4b0:=decide_eq_true c4;clear c4;(first|rw [c4b0]|(simp only [i64_w,i32_w];rw [c4b0])|skip);have H':=Aside0.mk H;clear H;obtain⟨hcz5_0,hcz5_1,hcz5_2,hcz5_3⟩:=My.qc4 BK666.out;obtain⟨hfz5_0,hfz5_1,hfz5_2,hfz5_3⟩:=My.qf4 BK666.out
   go_wp2
   go_meet
   case rel=> exact⟨_,(true),My.q0,H',⟨by first|omega|exact Nat.le_refl _⟩,⟨My.Va HO0_2.out⟩,⟨My.Ka BK666.out⟩,⟨My.bA⟩⟩
  ·rw [if_neg c4] at H
   have c4b0:=decide_eq_false c4;clear c4;(first|rw [c4b0]|(simp only [i64_w,i32_w];rw [c4b0])|skip)
   by_cases c6:a0_1 > a0_0
   ·rw [if_pos c6] at H
    have c6b0:=decide_eq_true c6;clear c6;have H':=Aside0.mk H;clear H;obtain⟨hcz7_0,hcz7_1,hcz7_2,hcz7_3⟩:=My.qc4 BK666.out;obtain⟨hfz7_0,hfz7_1,hfz7_2,hfz7_3⟩:=My.qf4 BK666.out
    go_wp2
    go_meet
    case rel=> exact⟨_,(true),My.q0,H',⟨by first|omega|exact Nat.le_refl _⟩,⟨My.Va HO0_2.out⟩,⟨My.Ka BK666.out⟩,⟨My.bA⟩⟩
   ·rw [if_neg c6] at H
    have c6b0:=decide_eq_false c6;clear c6
    by_cases c8:a0_0 > 1099511627774
    ·rw [if_pos c8] at H
     have c8b0:=decide_eq_true c8;clear c8;have H':=Aside0.mk H;clear H;obtain⟨hcz9_0,hcz9_1,hcz9_2,hcz9_3⟩:=My.qc4 BK666.out;obtain⟨hfz9_0,hfz9_1,hfz9_2,hfz9_3⟩:=My.qf4 BK666.out
     go_wp2
     go_meet
     case rel=> exact⟨_,(true),My.q0,H',⟨by first|omega|exact Nat.le_refl _⟩,⟨My.Va HO0_2.out⟩,⟨My.Ka BK666.out⟩,⟨My.bA⟩⟩
    ·rw [if_neg c8] at H
     have c8b0:=decide_eq_false c8;clear c8;replace H:=Option.bind_eq_some_iff.mp H;obtain⟨t667,A100,H⟩:=H;have A10:=Aside0.mk A100;clear A100
     by_cases c11:t667=true
     ·subst c11
      rw [if_pos rfl] at H
      by_cases c12:(l0_2.length:Int) > 30
      ·rw [if_pos c12] at H
       have c12b0:=decide_eq_true c12;have c12b1:decide (30 < l0_2.length)=true:=decide_eq_true (by omega);clear c12;have H':=Aside0.mk H;clear H;obtain⟨hcz13_0,hcz13_1,hcz13_2,hcz13_3⟩:=My.qc4 BK666.out;obtain⟨hfz13_0,hfz13_1,hfz13_2,hfz13_3⟩:=My.qf4 BK666.out
       go_wp2_with (first|(go_at_call 41;(with_reducible refine(batonref04_May.calls k _ _ l0_2 true _ ?side1 ?side2 A10.out).mono ?_);(case side1=> repeat(first|exact(Kd.V_reads' HO0_2.out).2.2|(with_reducible refine Kd.C_alloc ?_ _)|(with_reducible refine Kd.C_drewN ?_ _)|(with_reducible refine Kd.C_drew ?_)));(case side2=> exact(Kd.V_reads' HO0_2.out).2.1);rintro e w14 ⟨rfl,hb⟩;replace HO0_2:=My.m (Kd.V_below (My.Va HO0_2.out) hb);replace BK666:=My.m (My.kb BK666.out hb);replace HB:=My.m (below_step My.bA hb);obtain⟨hcz15_0,hcz15_1,hcz15_2,hcz15_3⟩:=My.qc4 BK666.out;obtain⟨hfz15_0,hfz15_1,hfz15_2,hfz15_3⟩:=My.qf4 BK666.out))
       go_meet
       case rel=> exact⟨_,(true),My.q0,H',⟨by first|omega|exact Nat.le_refl _⟩,⟨My.Va HO0_2.out⟩,⟨My.Ka BK666.out⟩,⟨My.bA⟩⟩
      ·rw [if_neg c12] at H
       have c12b0:=decide_eq_false c12;have c12b1:decide (30 < l0_2.length)=false:=decide_eq_false (by omega);clear c12;have H':=Aside0.mk H;clear H;obtain⟨hcz16_0,hcz16_1,hcz16_2,hcz16_3⟩:=My.qc4 BK666.out;obtain⟨hfz16_0,hfz16_1,hfz16_2,hfz16_3⟩:=My.qf4 BK666.out
       go_wp2_with (first|(go_at_call 41;(with_reducible refine(batonref04_May.calls k _ _ l0_2 true _ ?side1 ?side2 A10.out).mono ?_);(case side1=> repeat(first|exact(Kd.V_reads' HO0_2.out).2.2|(with_reducible refine Kd.C_alloc ?_ _)|(with_reducible refine Kd.C_drewN ?_ _)|(with_reducible refine Kd.C_drew ?_)));(case side2=> exact(Kd.V_reads' HO0_2.out).2.1);rintro e w17 ⟨rfl,hb⟩;replace HO0_2:=My.m (Kd.V_below (My.Va HO0_2.out) hb);replace BK666:=My.m (My.kb BK666.out hb);replace HB:=My.m (below_step My.bA hb);obtain⟨hcz18_0,hcz18_1,hcz18_2,hcz18_3⟩:=My.qc4 BK666.out;obtain⟨hfz18_0,hfz18_1,hfz18_2,hfz18_3⟩:=My.qf4 BK666.out))
       go_meet
       case rel=> exact⟨_,(decide ((l0_3.length:Int) > 60)),My.q0,H',⟨by first|omega|exact Nat.le_refl _⟩,⟨My.Va HO0_2.out⟩,⟨My.Ka BK666.out⟩,⟨My.bA⟩⟩
     ·replace c11:=Bool.eq_false_iff.mpr c11
      subst c11;rw [if_neg (show¬(false=true) by decide)] at H;have H':=Aside0.mk H;clear H;obtain⟨hcz19_0,hcz19_1,hcz19_2,hcz19_3⟩:=My.qc4 BK666.out;obtain⟨hfz19_0,hfz19_1,hfz19_2,hfz19_3⟩:=My.qf4 BK666.out
      go_wp2_with (first|(go_at_call 41;(with_reducible refine(batonref04_May.calls k _ _ l0_2 false _ ?side1 ?side2 A10.out).mono ?_);(case side1=> repeat(first|exact(Kd.V_reads' HO0_2.out).2.2|(with_reducible refine Kd.C_alloc ?_ _)|(with_reducible refine Kd.C_drewN ?_ _)|(with_reducible refine Kd.C_drew ?_)));(case side2=> exact(Kd.V_reads' HO0_2.out).2.1);rintro e w20 ⟨rfl,hb⟩;replace HO0_2:=My.m (Kd.V_below (My.Va HO0_2.out) hb);replace BK666:=My.m (My.kb BK666.out hb);replace HB:=My.m (below_step My.bA hb)))
      go_meet
      case rel=> exact⟨_,(true),My.q0,H',⟨by first|omega|exact Nat.le_refl _⟩,⟨My.Va HO0_2.out⟩,⟨My.Ka BK666.out⟩,⟨My.bA⟩⟩
 case rest=>
  clear HC2;(repeat first|clear c1|clear c2|clear p2|clear c4|clear c4b0|clear c6|clear c6b0|clear c8|clear c8b0|clear c11|clear c12|clear c12b0|clear c12b1|clear hcz13_0|clear hcz13_1|clear hcz13_2|clear hcz13_3|clear hcz15_0|clear hcz15_1|clear hcz15_2|clear hcz15_3|clear hcz16_0|clear hcz16_1|clear hcz16_2|clear hcz16_3|clear hcz18_0|clear hcz18_1|clear hcz18_2|clear hcz18_3|clear hcz19_0|clear hcz19_1|clear hcz19_2|clear hcz19_3|clear hcz5_0|clear hcz5_1|clear hcz5_2|clear hcz5_3|clear hcz7_0|clear hcz7_1|clear hcz7_2|clear hcz7_3|clear hcz9_0|clear hcz9_1|clear hcz9_2|clear hcz9_3|clear hfz13_0|clear hfz13_1|clear hfz13_2|clear hfz13_3|clear hfz15_0|clear hfz15_1|clear hfz15_2|clear hfz15_3|clear hfz16_0|clear hfz16_1|clear hfz16_2|clear hfz16_3|clear hfz18_0|clear hfz18_1|clear hfz18_2|clear hfz18_3|clear hfz19_0|clear hfz19_1|clear hfz19_2|clear hfz19_3|clear hfz5_0|clear hfz5_1|clear hfz5_2|clear hfz5_3|clear hfz7_0|clear hfz7_1|clear hfz7_2|clear hfz7_3|clear hfz9_0|clear hfz9_1|clear hfz9_2|clear hfz9_3);obtain⟨kq,x40_1,rfl,HA,HJ1,HO_667002,BK666,HB⟩:=hcut
  cases kq with
  |zero=> exact absurd HA.out (by simp [batonref05_May.j0])
  |succ kj1=>
   have H:=HA.out;clear HA;simp only [batonref05_May.j0] at H
   by_cases c21:x40_1=true
   ·subst c21
    rw [if_pos rfl] at H;obtain rfl:=Option.some.inj H
    go_wp2
    go_ret
    exact⟨My.q1,My.bA⟩
   ·replace c21:=Bool.eq_false_iff.mpr c21
    subst c21;rw [if_neg (show¬(false=true) by decide)] at H;have H':=Aside0.mk H;clear H
    go_wp2
    go_loopg [3] kj1 (fun kq v3 w'=> ∃(x3_2:Int),v3= .int .i64 x3_2∧Aside0 (batonref05_May.l0 kq x3_2 a0_0 a0_1 l0_2 l0_3=some r)∧Aside0 (kq≤kj1)∧Aside0 (Kd.V k26 26 w' w.heap.size (fun k_=> (P0_2_ k_∨w.heap.size≤k_)∧k_≠gb666) (.slice A0_2 l0_2.length c0_2) l0_2)∧Aside0 (w'.heap[gb666]? =some (.cells #[.int .i64 a0_0,.int .i64 a0_1,(.slice A0_2 l0_2.length c0_2),(.slice A0_3 l0_3.length c0_3)] 42 (0,0)))∧Aside0 (Below w.heap.size w w'))
    case atStart=> exact⟨(0),My.q0,H',⟨Nat.le_refl _⟩,⟨My.Va HO_667002.out⟩,⟨My.Ka BK666.out⟩,⟨My.bA⟩⟩
    case round=>
     clear H';(repeat first|clear c1|clear c2|clear p2|clear c4|clear c4b0|clear c6|clear c6b0|clear c8|clear c8b0|clear c11|clear c12|clear c12b0|clear c12b1|clear c21|clear hcz13_0|clear hcz13_1|clear hcz13_2|clear hcz13_3|clear hcz15_0|clear hcz15_1|clear hcz15_2|clear hcz15_3|clear hcz16_0|clear hcz16_1|clear hcz16_2|clear hcz16_3|clear hcz18_0|clear hcz18_1|clear hcz18_2|clear hcz18_3|clear hcz19_0|clear hcz19_1|clear hcz19_2|clear hcz19_3|clear hcz5_0|clear hcz5_1|clear hcz5_2|clear hcz5_3|clear hcz7_0|clear hcz7_1|clear hcz7_2|clear hcz7_3|clear hcz9_0|clear hcz9_1|clear hcz9_2|clear hcz9_3|clear hfz13_0|clear hfz13_1|clear hfz13_2|clear hfz13_3|clear hfz15_0|clear hfz15_1|clear hfz15_2|clear hfz15_3|clear hfz16_0|clear hfz16_1|clear hfz16_2|clear hfz16_3|clear hfz18_0|clear hfz18_1|clear hfz18_2|clear hfz18_3|clear hfz19_0|clear hfz19_1|clear hfz19_2|clear hfz19_3|clear hfz5_0|clear hfz5_1|clear hfz5_2|clear hfz5_3|clear hfz7_0|clear hfz7_1|clear hfz7_2|clear hfz7_3|clear hfz9_0|clear hfz9_1|clear hfz9_2|clear hfz9_3|clear p2);obtain⟨x3_2,rfl,HA,HK2,HO_667002,BK666,HB⟩:=hrel
     cases gk with
     |zero=> exact absurd HA.out (by simp [batonref05_May.l0])
     |succ k2=>
      have H:=HA.out;clear HA;simp only [batonref05_May.l0] at H
      by_cases c22:x3_2 < (l0_2.length:Int)
      ·rw [if_pos c22] at H
       have c22b0:=decide_eq_true c22;clear c22
       by_cases c23:0≤x3_2
       ·rw [if_pos c23] at H
        have c23b0:=decide_eq_true c23;clear c23
        by_cases c24:((rd_T26 l0_2 x3_2).f3) > a0_1
        ·rw [if_pos c24] at H
         have c24b0:=decide_eq_true c24;clear c24;obtain rfl:=Option.some.inj H;obtain⟨hcz25_0,hcz25_1,hcz25_2,hcz25_3⟩:=My.qc4 BK666.out;obtain⟨hfz25_0,hfz25_1,hfz25_2,hfz25_3⟩:=My.qf4 BK666.out;(try go_wp2);replace HO_667002:=My.m (Kd.V_drew HO_667002.out);replace BK666:=My.m (blk_drew BK666.out);replace HB:=My.m (below_drew1 HB.out);have p668:0≤(x3_2:Int):=of_decide_eq_true My.as;have q668:x3_2 < (l0_2.length:Int):=of_decide_eq_true My.as;obtain⟨ad668,e668,hx668_0,hx668_1,hx668_2,hx668_3,hx668_4,hx668_5⟩:=at_T26 (Kd.V_reads' HO_667002.out).2.2 x3_2 p668 q668;cases e668;replace p668:=eq_true p668;replace q668:=eq_true q668;refine start_ (n:=9) (S:=fun w'=> w'.cell? ⟨gb666,0,none⟩=some (.int .i64 a0_0)∧w'.cell? ⟨gb666,1,none⟩=some (.int .i64 a0_1)∧w'.cell? ⟨gb666,2,none⟩=some (.slice (some ad668) l0_2.length c0_2)∧w'.cell? ⟨gb666,3,none⟩=some (.slice A0_3 l0_3.length c0_3)∧eT26 w' (ad668.add ((x3_2).toNat * 6)) (rd_T26 l0_2 x3_2)) (ds:= []) (My.bl 9 0) (by kernel_rfl) rfl (by kernel_rfl) ⟨(blk_cell BK666.out 0).trans rfl,(blk_cell BK666.out 1).trans rfl,(blk_cell BK666.out 2).trans rfl,(blk_cell BK666.out 3).trans rfl,hx668_0,hx668_1,hx668_2,hx668_3,hx668_4,hx668_5⟩ (fun hHeld=> ?_);refine with_tabW batonref05_May.tab6 batonref05_May.bits6 (fun HT_ HW_=> ?_);generalize wr.drew=w26 at HO_667002 BK666 HB hx668_0 hx668_1 hx668_2 hx668_3 hx668_4 hx668_5 hHeld⊢;refine My.pu 0 48 1 HT_ ?_;refine My.pu 2 50 5 HT_ ?_;refine My.pu 6 54 69 HT_ ?_;refine My.tk 1 49 71 HT_ HW_ hHeld ?_;refine My.pu 3 51 79 HT_ ?_;refine My.pu 4 52 95 HT_ ?_;refine My.tk 5 53 127 HT_ HW_ hHeld ?_;refine My.tk 7 55 255 HT_ HW_ hHeld ?_;refine My.pu 8 56 511 HT_ ?_;refine done_ (done_of HT_.out (by kernel_rfl)) ?_;(try go_wp2)
         go_ret
         exact⟨My.q1,My.bA⟩
        ·rw [if_neg c24] at H
         have c24b0:=decide_eq_false c24;clear c24;have H':=Aside0.mk H;clear H;obtain⟨hcz27_0,hcz27_1,hcz27_2,hcz27_3⟩:=My.qc4 BK666.out;obtain⟨hfz27_0,hfz27_1,hfz27_2,hfz27_3⟩:=My.qf4 BK666.out;(try go_wp2);replace HO_667002:=My.m (Kd.V_drew HO_667002.out);replace BK666:=My.m (blk_drew BK666.out);replace HB:=My.m (below_drew1 HB.out);have p668:0≤(x3_2:Int):=of_decide_eq_true My.as;have q668:x3_2 < (l0_2.length:Int):=of_decide_eq_true My.as;obtain⟨ad668,e668,hx668_0,hx668_1,hx668_2,hx668_3,hx668_4,hx668_5⟩:=at_T26 (Kd.V_reads' HO_667002.out).2.2 x3_2 p668 q668;cases e668;replace p668:=eq_true p668;replace q668:=eq_true q668;refine start_ (n:=9) (S:=fun w'=> w'.cell? ⟨gb666,0,none⟩=some (.int .i64 a0_0)∧w'.cell? ⟨gb666,1,none⟩=some (.int .i64 a0_1)∧w'.cell? ⟨gb666,2,none⟩=some (.slice (some ad668) l0_2.length c0_2)∧w'.cell? ⟨gb666,3,none⟩=some (.slice A0_3 l0_3.length c0_3)∧eT26 w' (ad668.add ((x3_2).toNat * 6)) (rd_T26 l0_2 x3_2)) (ds:= []) (My.bl 9 0) (by kernel_rfl) rfl (by kernel_rfl) ⟨(blk_cell BK666.out 0).trans rfl,(blk_cell BK666.out 1).trans rfl,(blk_cell BK666.out 2).trans rfl,(blk_cell BK666.out 3).trans rfl,hx668_0,hx668_1,hx668_2,hx668_3,hx668_4,hx668_5⟩ (fun hHeld=> ?_);refine with_tabW batonref05_May.tab6 batonref05_May.bits6 (fun HT_ HW_=> ?_);generalize wr.drew=w28 at HO_667002 BK666 HB hx668_0 hx668_1 hx668_2 hx668_3 hx668_4 hx668_5 hHeld⊢;refine My.pu 0 48 1 HT_ ?_;refine My.pu 2 50 5 HT_ ?_;refine My.pu 6 54 69 HT_ ?_;refine My.tk 1 49 71 HT_ HW_ hHeld ?_;refine My.pu 3 51 79 HT_ ?_;refine My.pu 4 52 95 HT_ ?_;refine My.tk 5 53 127 HT_ HW_ hHeld ?_;refine My.tk 7 55 255 HT_ HW_ hHeld ?_;refine My.pu 8 56 511 HT_ ?_;refine done_ (done_of HT_.out (by kernel_rfl)) ?_;(try go_wp2)
         go_roundg k2
         case measure=> have:=HJ1.out;have:=HK2.out;omega
         case rel=> exact⟨(wrap64 (x3_2 + 1)),My.q0,H',⟨by have:=HJ1.out;have:=HK2.out;omega⟩,⟨My.Va HO_667002.out⟩,⟨My.Ka BK666.out⟩,⟨My.bA⟩⟩
       ·exact My.no c23 H
      ·rw [if_neg c22] at H
       have c22b0:=decide_eq_false c22;clear c22;have H':=Aside0.mk H;clear H;obtain⟨hcz29_0,hcz29_1,hcz29_2,hcz29_3⟩:=My.qc4 BK666.out;obtain⟨hfz29_0,hfz29_1,hfz29_2,hfz29_3⟩:=My.qf4 BK666.out
       go_wp2
       go_loopg [4,5,6] k2 (fun kq v4 v5 v6 w'=> ∃(x4_3:List (S26)) (x5_3:Int) (x6_3:Int),v5= .int .i64 x5_3∧v6= .int .i64 x6_3∧Aside0 (batonref05_May.l1 kq x4_3 x5_3 x6_3 a0_0 a0_1 l0_2 l0_3=some r)∧Aside0 (kq≤k2)∧Aside0 (Kd.V k26 26 w' w.heap.size (fun k_=> (P0_2_ k_∨w.heap.size≤k_)∧k_≠gb666) v4 x4_3)∧Aside0 (Kd.V k26 26 w' w.heap.size (fun k_=> (P0_2_ k_∨w.heap.size≤k_)∧k_≠gb666) (.slice A0_2 l0_2.length c0_2) l0_2)∧Aside0 (w'.heap[gb666]? =some (.cells #[.int .i64 a0_0,.int .i64 a0_1,(.slice A0_2 l0_2.length c0_2),(.slice A0_3 l0_3.length c0_3)] 42 (0,0)))∧Aside0 (Below w.heap.size w w'))
       case atStart=> exact⟨(l0_2),(a0_1),(0),My.q0,My.q0,H',⟨Nat.le_refl _⟩,⟨My.Va HO_667002.out⟩,⟨My.Va HO_667002.out⟩,⟨My.Ka BK666.out⟩,⟨My.bA⟩⟩
       case round=>
        clear H';(repeat first|clear c1|clear c2|clear p2|clear c4|clear c4b0|clear c6|clear c6b0|clear p6|clear q6|clear hx6|clear c8|clear c8b0|clear c11|clear c12|clear c12b0|clear c12b1|clear c21|clear c22|clear c22b0|clear c23|clear c23b0|clear c24|clear c24b0|clear hcz13_0|clear hcz13_1|clear hcz13_2|clear hcz13_3|clear hcz15_0|clear hcz15_1|clear hcz15_2|clear hcz15_3|clear hcz16_0|clear hcz16_1|clear hcz16_2|clear hcz16_3|clear hcz18_0|clear hcz18_1|clear hcz18_2|clear hcz18_3|clear hcz19_0|clear hcz19_1|clear hcz19_2|clear hcz19_3|clear hcz25_0|clear hcz25_1|clear hcz25_2|clear hcz25_3|clear hcz27_0|clear hcz27_1|clear hcz27_2|clear hcz27_3|clear hcz29_0|clear hcz29_1|clear hcz29_2|clear hcz29_3|clear hcz5_0|clear hcz5_1|clear hcz5_2|clear hcz5_3|clear hcz7_0|clear hcz7_1|clear hcz7_2|clear hcz7_3|clear hcz9_0|clear hcz9_1|clear hcz9_2|clear hcz9_3|clear hfz13_0|clear hfz13_1|clear hfz13_2|clear hfz13_3|clear hfz15_0|clear hfz15_1|clear hfz15_2|clear hfz15_3|clear hfz16_0|clear hfz16_1|clear hfz16_2|clear hfz16_3|clear hfz18_0|clear hfz18_1|clear hfz18_2|clear hfz18_3|clear hfz19_0|clear hfz19_1|clear hfz19_2|clear hfz19_3|clear hfz25_0|clear hfz25_1|clear hfz25_2|clear hfz25_3|clear hfz27_0|clear hfz27_1|clear hfz27_2|clear hfz27_3|clear hfz29_0|clear hfz29_1|clear hfz29_2|clear hfz29_3|clear hfz5_0|clear hfz5_1|clear hfz5_2|clear hfz5_3|clear hfz7_0|clear hfz7_1|clear hfz7_2|clear hfz7_3|clear hfz9_0|clear hfz9_1|clear hfz9_2|clear hfz9_3|clear hx668_0|clear hx668_1|clear hx668_2|clear hx668_3|clear hx668_4|clear hx668_5|clear p2|clear p668|clear q668);obtain⟨x4_3,x5_3,x6_3,rfl,rfl,HA,HK3,HO_4,HO_667002,BK666,HB⟩:=hrel
        cases gk with
        |zero=> exact absurd HA.out (by simp [batonref05_May.l1])
        |succ k3=>
         have H:=HA.out;clear HA;simp only [batonref05_May.l1] at H
         by_cases c30:x6_3 < (l0_3.length:Int)
         ·rw [if_pos c30] at H
          have c30b0:=decide_eq_true c30;clear c30
          by_cases c31:0≤x6_3
          ·rw [if_pos c31] at H
           have c31b0:=decide_eq_true c31;clear c31;have HC32:=Aside0.mk H;clear H;obtain⟨hcz33_0,hcz33_1,hcz33_2,hcz33_3⟩:=My.qc4 BK666.out;obtain⟨hfz33_0,hfz33_1,hfz33_2,hfz33_3⟩:=My.qf4 BK666.out;have p669:0≤(x6_3:Int):=of_decide_eq_true My.as;have q669:x6_3 < (l0_3.length:Int):=of_decide_eq_true My.as;obtain⟨ad669,e669,hx669_0,hx669_1,hx669_2,hx669_3,hx669_4,hx669_5,hx669_6,hx669_7⟩:=at_T54 HR0_3.out x6_3 p669 q669;cases e669;replace hx669_0:=My.up HB.out hx669_0;replace hx669_1:=My.up HB.out hx669_1;replace hx669_2:=My.up HB.out hx669_2;replace hx669_3:=My.up HB.out hx669_3;replace hx669_4:=My.up HB.out hx669_4;replace hx669_5:=My.up HB.out hx669_5;replace hx669_6:=My.up HB.out hx669_6;replace hx669_7:=My.up HB.out hx669_7;replace p669:=eq_true p669;replace q669:=eq_true q669
           go_upto_region 14 with (first|((with_reducible refine gate_dst (N:=7) rfl ?_);(try(refine gate_guard (by rfl) ?_;dsimp only));refine My.be 7 54 #[.int .i64 0,.bool false,.string (⟨#[]⟩:ByteArray),.string (⟨#[]⟩:ByteArray),.int .i64 0,.int .i64 0,.int .i64 0,.int .i64 0] ?_;intro gb670 hg w34 hbox hb;replace HO_4:=My.m (Kd.V_below (Kd.V_elderB (My.Va HO_4.out) gb670 (Nat.le_of_eq hg.symm)) hb);replace HO_667002:=My.m (Kd.V_below (Kd.V_elderB (My.Va HO_667002.out) gb670 (Nat.le_of_eq hg.symm)) hb);have BK670:=My.m hbox;have GW670:=My.m ((My.nw w hg My.bA));have GE670:=My.m ((My.nw w hg My.bA));replace HB:=My.m (below_step My.bA hb);have NB666_670:=My.m ((My.nl hg BK666));have NB670_666:=My.m ((My.nr hg BK666));replace BK666:=My.m (My.kb BK666.out hb);clear hb hbox hg;have hnb35:=NB670_666.out;have hnc35:=NB666_670.out;obtain⟨hcz36_0,hcz36_1,hcz36_2,hcz36_3,hcz36_4,hcz36_5,hcz36_6,hcz36_7⟩:=My.qc8 BK670.out;obtain⟨hfz36_0,hfz36_1,hfz36_2,hfz36_3,hfz36_4,hfz36_5,hfz36_6,hfz36_7⟩:=My.qf8 BK670.out))
           (try simp only [Act.put,List.setIfInBounds_toArray,List.set_cons_zero,List.set_cons_succ])
           go_cut [96] (fun v96 wc=> ∃(kq:Nat) (x96_31:Bool),v96= .bool x96_31∧Aside0 (batonref05_May.j3 kq x4_3 x6_3 x96_31 a0_0 a0_1 l0_2 l0_3 ((rd_T54 l0_3 x6_3).f0) ((rd_T54 l0_3 x6_3).f1) ((rd_T54 l0_3 x6_3).f2.f0) ((rd_T54 l0_3 x6_3).f2.f1) ((rd_T54 l0_3 x6_3).f2.f2) ((rd_T54 l0_3 x6_3).f2.f3) ((rd_T54 l0_3 x6_3).f2.f4) ((rd_T54 l0_3 x6_3).f2.f5)=some r)∧Aside0 (kq≤k3)∧Aside0 (Kd.V k26 26 wc w.heap.size (fun k_=> (P0_2_ k_∨w.heap.size≤k_)∧k_≠gb666∧k_≠gb670) u4 x4_3)∧Aside0 (Kd.V k26 26 wc w.heap.size (fun k_=> (P0_2_ k_∨w.heap.size≤k_)∧k_≠gb666∧k_≠gb670) (.slice A0_2 l0_2.length c0_2) l0_2)∧Aside0 (wc.heap[gb666]? =some (.cells #[.int .i64 a0_0,.int .i64 a0_1,(.slice A0_2 l0_2.length c0_2),(.slice (some ad669) l0_3.length c0_3)] 42 (0,0)))∧Aside0 (wc.heap[gb670]? =some (.cells #[.int .i64 ((rd_T54 l0_3 x6_3).f0),.bool ((rd_T54 l0_3 x6_3).f1),.string ((rd_T54 l0_3 x6_3).f2.f0),.string ((rd_T54 l0_3 x6_3).f2.f1),.int .i64 ((rd_T54 l0_3 x6_3).f2.f2),.int .i64 ((rd_T54 l0_3 x6_3).f2.f3),.int .i64 ((rd_T54 l0_3 x6_3).f2.f4),.int .i64 ((rd_T54 l0_3 x6_3).f2.f5)] 54 (0,0)))∧Aside0 (Below w.heap.size w wc))
           case first=>
            have H:=HC32.out;clear HC32
            by_cases c37:((rd_T54 l0_3 x6_3).f0)≤a0_1
            ·rw [if_pos c37] at H
             have c37b0:=decide_eq_true c37;clear c37;(first|rw [c37b0]|(simp only [i64_w,i32_w];rw [c37b0])|skip);have H':=Aside0.mk H;clear H;have hnb38:=NB670_666.out;have hnc38:=NB666_670.out;obtain⟨hcz39_0,hcz39_1,hcz39_2,hcz39_3,hcz39_4,hcz39_5,hcz39_6,hcz39_7⟩:=My.qc8 BK670.out;obtain⟨hfz39_0,hfz39_1,hfz39_2,hfz39_3,hfz39_4,hfz39_5,hfz39_6,hfz39_7⟩:=My.qf8 BK670.out;obtain⟨hcz40_0,hcz40_1,hcz40_2,hcz40_3⟩:=My.qc4 BK666.out;obtain⟨hfz40_0,hfz40_1,hfz40_2,hfz40_3⟩:=My.qf4 BK666.out
             go_wp2
             go_meet
             case rel=> exact⟨_,(true),My.q0,H',⟨by have:=HJ1.out;have:=HK2.out;have:=HK3.out;first|omega|exact Nat.le_refl _⟩,⟨by(with_reducible repeat(first|apply Kd.V_alloc|apply Kd.V_drewN|apply Kd.V_drew));exact Kd.V_mono (My.qv8 (Kd.V_mono HO_4.out (fun k_ hk=> (⟨hk,hk.2⟩:_∧k_≠gb670))) (fun _ hk=> hk.2)) (fun _ hk=> ⟨hk.1.1.1,⟨hk.1.1.2,hk.1.2⟩⟩)⟩,⟨by(with_reducible repeat(first|apply Kd.V_alloc|apply Kd.V_drewN|apply Kd.V_drew));exact Kd.V_mono (My.qv8 (Kd.V_mono HO_667002.out (fun k_ hk=> (⟨hk,hk.2⟩:_∧k_≠gb670))) (fun _ hk=> hk.2)) (fun _ hk=> ⟨hk.1.1.1,⟨hk.1.1.2,hk.1.2⟩⟩)⟩,⟨My.qb8 NB666_670.out BK666.out⟩,⟨My.qp8 BK670.out⟩,⟨My.bA⟩⟩
            ·rw [if_neg c37] at H
             have c37b0:=decide_eq_false c37;clear c37;(first|rw [c37b0]|(simp only [i64_w,i32_w];rw [c37b0])|skip)
             by_cases c41:((rd_T54 l0_3 x6_3).f0) < x5_3
             ·rw [if_pos c41] at H
              have c41b0:=decide_eq_true c41;clear c41;have H':=Aside0.mk H;clear H;have hnb42:=NB670_666.out;have hnc42:=NB666_670.out;obtain⟨hcz43_0,hcz43_1,hcz43_2,hcz43_3,hcz43_4,hcz43_5,hcz43_6,hcz43_7⟩:=My.qc8 BK670.out;obtain⟨hfz43_0,hfz43_1,hfz43_2,hfz43_3,hfz43_4,hfz43_5,hfz43_6,hfz43_7⟩:=My.qf8 BK670.out;obtain⟨hcz44_0,hcz44_1,hcz44_2,hcz44_3⟩:=My.qc4 BK666.out;obtain⟨hfz44_0,hfz44_1,hfz44_2,hfz44_3⟩:=My.qf4 BK666.out
              go_wp2
              go_meet
              case rel=> exact⟨_,(true),My.q0,H',⟨by have:=HJ1.out;have:=HK2.out;have:=HK3.out;first|omega|exact Nat.le_refl _⟩,⟨by(with_reducible repeat(first|apply Kd.V_alloc|apply Kd.V_drewN|apply Kd.V_drew));exact Kd.V_mono (My.qv8 (Kd.V_mono HO_4.out (fun k_ hk=> (⟨hk,hk.2⟩:_∧k_≠gb670))) (fun _ hk=> hk.2)) (fun _ hk=> ⟨hk.1.1.1,⟨hk.1.1.2,hk.1.2⟩⟩)⟩,⟨by(with_reducible repeat(first|apply Kd.V_alloc|apply Kd.V_drewN|apply Kd.V_drew));exact Kd.V_mono (My.qv8 (Kd.V_mono HO_667002.out (fun k_ hk=> (⟨hk,hk.2⟩:_∧k_≠gb670))) (fun _ hk=> hk.2)) (fun _ hk=> ⟨hk.1.1.1,⟨hk.1.1.2,hk.1.2⟩⟩)⟩,⟨My.qb8 NB666_670.out BK666.out⟩,⟨My.qp8 BK670.out⟩,⟨My.bA⟩⟩
             ·rw [if_neg c41] at H
              have c41b0:=decide_eq_false c41;clear c41
              by_cases c45:((rd_T54 l0_3 x6_3).f0) > a0_0
              ·rw [if_pos c45] at H
               have c45b0:=decide_eq_true c45;clear c45;have H':=Aside0.mk H;clear H;have hnb46:=NB670_666.out;have hnc46:=NB666_670.out;obtain⟨hcz47_0,hcz47_1,hcz47_2,hcz47_3,hcz47_4,hcz47_5,hcz47_6,hcz47_7⟩:=My.qc8 BK670.out;obtain⟨hfz47_0,hfz47_1,hfz47_2,hfz47_3,hfz47_4,hfz47_5,hfz47_6,hfz47_7⟩:=My.qf8 BK670.out;obtain⟨hcz48_0,hcz48_1,hcz48_2,hcz48_3⟩:=My.qc4 BK666.out;obtain⟨hfz48_0,hfz48_1,hfz48_2,hfz48_3⟩:=My.qf4 BK666.out
               go_wp2
               go_meet
               case rel=> exact⟨_,(true),My.q0,H',⟨by have:=HJ1.out;have:=HK2.out;have:=HK3.out;first|omega|exact Nat.le_refl _⟩,⟨by(with_reducible repeat(first|apply Kd.V_alloc|apply Kd.V_drewN|apply Kd.V_drew));exact Kd.V_mono (My.qv8 (Kd.V_mono HO_4.out (fun k_ hk=> (⟨hk,hk.2⟩:_∧k_≠gb670))) (fun _ hk=> hk.2)) (fun _ hk=> ⟨hk.1.1.1,⟨hk.1.1.2,hk.1.2⟩⟩)⟩,⟨by(with_reducible repeat(first|apply Kd.V_alloc|apply Kd.V_drewN|apply Kd.V_drew));exact Kd.V_mono (My.qv8 (Kd.V_mono HO_667002.out (fun k_ hk=> (⟨hk,hk.2⟩:_∧k_≠gb670))) (fun _ hk=> hk.2)) (fun _ hk=> ⟨hk.1.1.1,⟨hk.1.1.2,hk.1.2⟩⟩)⟩,⟨My.qb8 NB666_670.out BK666.out⟩,⟨My.qp8 BK670.out⟩,⟨My.bA⟩⟩
              ·rw [if_neg c45] at H
               have c45b0:=decide_eq_false c45;clear c45;replace H:=Option.bind_eq_some_iff.mp H;obtain⟨t671,A490,H⟩:=H;have A49:=Aside0.mk A490;clear A490;have H':=Aside0.mk H;clear H;have hnb50:=NB670_666.out;have hnc50:=NB666_670.out;obtain⟨hcz51_0,hcz51_1,hcz51_2,hcz51_3,hcz51_4,hcz51_5,hcz51_6,hcz51_7⟩:=My.qc8 BK670.out;obtain⟨hfz51_0,hfz51_1,hfz51_2,hfz51_3,hfz51_4,hfz51_5,hfz51_6,hfz51_7⟩:=My.qf8 BK670.out;obtain⟨hcz52_0,hcz52_1,hcz52_2,hcz52_3⟩:=My.qc4 BK666.out;obtain⟨hfz52_0,hfz52_1,hfz52_2,hfz52_3⟩:=My.qf4 BK666.out;obtain⟨Ao53,co53,eo53⟩:=Kd.V_slice HO_4.out;subst eo53
               go_wp2_with (first|(go_at_call 42;(with_reducible refine(batonref05_right.calls k3 _ _ x4_3 ((rd_T54 l0_3 x6_3).f0) ((rd_T54 l0_3 x6_3).f1) ((rd_T54 l0_3 x6_3).f2.f0) ((rd_T54 l0_3 x6_3).f2.f1) ((rd_T54 l0_3 x6_3).f2.f2) ((rd_T54 l0_3 x6_3).f2.f3) ((rd_T54 l0_3 x6_3).f2.f4) ((rd_T54 l0_3 x6_3).f2.f5) t671 _ ?side1 ?side2 A49.out).mono ?_);(case side1=> refine(Kd.V_reads' (e:=26) (base:=w.heap.size) (ok:=fun k_=> ((((P0_2_ k_∨w.heap.size≤k_))∧k_≠gb666)∧k_≠gb670)) (n:=x4_3.length) (c:=co53) ?_).2.2;exact(by(with_reducible repeat(first|apply Kd.V_alloc|apply Kd.V_drewN|apply Kd.V_drew));exact(Kd.V_mono (My.qv8 (Kd.V_mono HO_4.out (fun k_ hk=> (⟨hk,hk.2⟩:_∧k_≠gb670))) (fun _ hk=> hk.2)) (fun _ h_=> h_.1))));(case side2=> exact(Kd.V_reads' HO_4.out).2.1);rintro e w54 ⟨rfl,hb⟩;have n0_:=My.m (Kd.V_below (by(with_reducible repeat(first|apply Kd.V_alloc|apply Kd.V_drewN|apply Kd.V_drew));exact(Kd.V_mono (My.qv8 (Kd.V_mono HO_4.out (fun k_ hk=> (⟨hk,hk.2⟩:_∧k_≠gb670))) (fun _ hk=> hk.2)) (fun _ h_=> h_.1))) hb);have n1_:=My.m (Kd.V_below (by(with_reducible repeat(first|apply Kd.V_alloc|apply Kd.V_drewN|apply Kd.V_drew));exact(Kd.V_mono (My.qv8 (Kd.V_mono HO_667002.out (fun k_ hk=> (⟨hk,hk.2⟩:_∧k_≠gb670))) (fun _ hk=> hk.2)) (fun _ h_=> h_.1))) hb);have n2_:=My.m (blk_below (My.qb8 NB666_670.out BK666.out) hb);have n3_:=My.m (blk_below (My.qp8 BK670.out) hb);have n4_:=My.m (below_step My.bA hb);clear HO_4;clear HO_667002;clear BK666;clear BK670;clear HB;have HO_4:=n0_;have HO_667002:=n1_;have BK666:=n2_;have BK670:=n3_;have HB:=n4_;clear n0_ n1_ n2_ n3_ n4_))
               go_meet
               case rel=> exact⟨_,(!t671),My.q0,H',⟨by have:=HJ1.out;have:=HK2.out;have:=HK3.out;first|omega|exact Nat.le_refl _⟩,⟨by(with_reducible repeat(first|apply Kd.V_alloc|apply Kd.V_drewN|apply Kd.V_drew));exact Kd.V_mono HO_4.out (fun _ hk=> ⟨hk.1.1,⟨hk.1.2,hk.2⟩⟩)⟩,⟨by(with_reducible repeat(first|apply Kd.V_alloc|apply Kd.V_drewN|apply Kd.V_drew));exact Kd.V_mono HO_667002.out (fun _ hk=> ⟨hk.1.1,⟨hk.1.2,hk.2⟩⟩)⟩,⟨My.Ka BK666.out⟩,⟨My.Ka BK670.out⟩,⟨My.bA⟩⟩
           case rest=>
            clear HC32;(repeat first|clear c1|clear c2|clear p2|clear c3|clear c4|clear c4b0|clear c5|clear c6|clear c6b0|clear p6|clear q6|clear hx6|clear c8|clear c8b0|clear c11|clear c12|clear c12b0|clear c12b1|clear c21|clear c22|clear c22b0|clear c23|clear c23b0|clear c24|clear c24b0|clear c30|clear c30b0|clear c31|clear c31b0|clear c35|clear c37|clear c37b0|clear c38|clear c41|clear c41b0|clear c42|clear c45|clear c45b0|clear c46|clear c50|clear hcz13_0|clear hcz13_1|clear hcz13_2|clear hcz13_3|clear hcz15_0|clear hcz15_1|clear hcz15_2|clear hcz15_3|clear hcz16_0|clear hcz16_1|clear hcz16_2|clear hcz16_3|clear hcz18_0|clear hcz18_1|clear hcz18_2|clear hcz18_3|clear hcz19_0|clear hcz19_1|clear hcz19_2|clear hcz19_3|clear hcz25_0|clear hcz25_1|clear hcz25_2|clear hcz25_3|clear hcz27_0|clear hcz27_1|clear hcz27_2|clear hcz27_3|clear hcz29_0|clear hcz29_1|clear hcz29_2|clear hcz29_3|clear hcz33_0|clear hcz33_1|clear hcz33_2|clear hcz33_3|clear hcz36_0|clear hcz36_1|clear hcz36_2|clear hcz36_3|clear hcz36_4|clear hcz36_5|clear hcz36_6|clear hcz36_7|clear hcz39_0|clear hcz39_1|clear hcz39_2|clear hcz39_3|clear hcz39_4|clear hcz39_5|clear hcz39_6|clear hcz39_7|clear hcz40_0|clear hcz40_1|clear hcz40_2|clear hcz40_3|clear hcz43_0|clear hcz43_1|clear hcz43_2|clear hcz43_3|clear hcz43_4|clear hcz43_5|clear hcz43_6|clear hcz43_7|clear hcz44_0|clear hcz44_1|clear hcz44_2|clear hcz44_3|clear hcz47_0|clear hcz47_1|clear hcz47_2|clear hcz47_3|clear hcz47_4|clear hcz47_5|clear hcz47_6|clear hcz47_7|clear hcz48_0|clear hcz48_1|clear hcz48_2|clear hcz48_3|clear hcz51_0|clear hcz51_1|clear hcz51_2|clear hcz51_3|clear hcz51_4|clear hcz51_5|clear hcz51_6|clear hcz51_7|clear hcz52_0|clear hcz52_1|clear hcz52_2|clear hcz52_3|clear hcz5_0|clear hcz5_1|clear hcz5_2|clear hcz5_3|clear hcz7_0|clear hcz7_1|clear hcz7_2|clear hcz7_3|clear hcz9_0|clear hcz9_1|clear hcz9_2|clear hcz9_3|clear hfz13_0|clear hfz13_1|clear hfz13_2|clear hfz13_3|clear hfz15_0|clear hfz15_1|clear hfz15_2|clear hfz15_3|clear hfz16_0|clear hfz16_1|clear hfz16_2|clear hfz16_3|clear hfz18_0|clear hfz18_1|clear hfz18_2|clear hfz18_3|clear hfz19_0|clear hfz19_1|clear hfz19_2|clear hfz19_3|clear hfz25_0|clear hfz25_1|clear hfz25_2|clear hfz25_3|clear hfz27_0|clear hfz27_1|clear hfz27_2|clear hfz27_3|clear hfz29_0|clear hfz29_1|clear hfz29_2|clear hfz29_3|clear hfz33_0|clear hfz33_1|clear hfz33_2|clear hfz33_3|clear hfz36_0|clear hfz36_1|clear hfz36_2|clear hfz36_3|clear hfz36_4|clear hfz36_5|clear hfz36_6|clear hfz36_7|clear hfz39_0|clear hfz39_1|clear hfz39_2|clear hfz39_3|clear hfz39_4|clear hfz39_5|clear hfz39_6|clear hfz39_7|clear hfz40_0|clear hfz40_1|clear hfz40_2|clear hfz40_3|clear hfz43_0|clear hfz43_1|clear hfz43_2|clear hfz43_3|clear hfz43_4|clear hfz43_5|clear hfz43_6|clear hfz43_7|clear hfz44_0|clear hfz44_1|clear hfz44_2|clear hfz44_3|clear hfz47_0|clear hfz47_1|clear hfz47_2|clear hfz47_3|clear hfz47_4|clear hfz47_5|clear hfz47_6|clear hfz47_7|clear hfz48_0|clear hfz48_1|clear hfz48_2|clear hfz48_3|clear hfz51_0|clear hfz51_1|clear hfz51_2|clear hfz51_3|clear hfz51_4|clear hfz51_5|clear hfz51_6|clear hfz51_7|clear hfz52_0|clear hfz52_1|clear hfz52_2|clear hfz52_3|clear hfz5_0|clear hfz5_1|clear hfz5_2|clear hfz5_3|clear hfz7_0|clear hfz7_1|clear hfz7_2|clear hfz7_3|clear hfz9_0|clear hfz9_1|clear hfz9_2|clear hfz9_3|clear hx668_0|clear hx668_1|clear hx668_2|clear hx668_3|clear hx668_4|clear hx668_5|clear hx669_0|clear hx669_1|clear hx669_2|clear hx669_3|clear hx669_4|clear hx669_5|clear hx669_6|clear hx669_7|clear p2|clear p6|clear p668|clear p669|clear q6|clear q668|clear q669);obtain⟨kq,x96_31,rfl,HA,HJ31,HO_4,HO_667002,BK666,BK670,HB⟩:=hcut
            cases kq with
            |zero=> exact absurd HA.out (by simp [batonref05_May.j3])
            |succ kj31=>
             have H:=HA.out;clear HA;simp only [batonref05_May.j3] at H
             by_cases c55:x96_31=true
             ·subst c55
              rw [if_pos rfl] at H;obtain rfl:=Option.some.inj H
              go_wp2
              go_ret
              exact⟨My.q1,My.bA⟩
             ·replace c55:=Bool.eq_false_iff.mpr c55
              subst c55;rw [if_neg (show¬(false=true) by decide)] at H
              by_cases c56:0≤x6_3
              ·rw [if_pos c56] at H
               have c56b0:=eq_true c56;have c56b1:decide (0≤x6_3)=true:=decide_eq_true c56;clear c56
               by_cases c57:x6_3≤(wrap64 (x6_3 + 1))
               ·rw [if_pos c57] at H
                have c57b0:=eq_true c57;have c57b1:decide (x6_3≤(wrap64 (x6_3 + 1)))=true:=decide_eq_true c57
                by_cases c58:(wrap64 (x6_3 + 1))≤(l0_3.length:Int)
                ·rw [if_pos c58] at H
                 have c58b0:=eq_true c58;have c58b1:decide ((wrap64 (x6_3 + 1))≤(l0_3.length:Int))=true:=decide_eq_true c58;obtain⟨y672,hy_⟩:∃y_:List (S54),y_=((l0_3.take ((wrap64 (x6_3 + 1)):Int).toNat).drop (x6_3:Int).toNat):=⟨_,rfl⟩;replace H:((batonref04_Fold.f kj31 x4_3 y672 ((rd_T54 l0_3 x6_3).f0)).bind fun t676=> (if (t676.length:Int) > 30 then (some false) else (batonref05_May.l1 kj31 t676 ((rd_T54 l0_3 x6_3).f0) (wrap64 (x6_3 + 1)) a0_0 a0_1 l0_2 l0_3)))=some r:=My.hr;have Ny672:=Aside0.mk hy_;clear hy_;replace H:=Option.bind_eq_some_iff.mp H;obtain⟨t676,A590,H⟩:=H;have A59:=Aside0.mk A590;clear A590
                 by_cases c60:(t676.length:Int) > 30
                 ·rw [if_pos c60] at H
                  have c60b0:=decide_eq_true c60;have c60b1:decide (30 < t676.length)=true:=decide_eq_true (by omega);clear c60;obtain rfl:=Option.some.inj H;(try go_wp2);replace HO_4:=My.m (Kd.V_drew HO_4.out);replace HO_667002:=My.m (Kd.V_drew HO_667002.out);replace BK666:=My.m (blk_drew BK666.out);replace BK670:=My.m (blk_drew BK670.out);replace HB:=My.m (below_drew1 HB.out);have q62:((wrap64 (x6_3 + 1)):Int)≤((l0_3.length:Int):Int):=of_decide_eq_true My.as;obtain⟨i062,hi062,_,hsz62,_⟩:=info_parts info54;have hroom62:l0_3.length≤c0_3:=HC0_3.out;have hC62:Kd.C k54 _ (some ad669) l0_3.length l0_3:=HR0_3.out;have ql62:(x6_3:Int)≤((wrap64 (x6_3 + 1)):Int):=of_decide_eq_true My.as;have q062:(0:Int)≤(x6_3:Int):=of_decide_eq_true My.as;have hcut62:=cut_mid (P:=Try.prog) 35 54 .i64 .i64 Try.underlying35 hi062 8 hsz62 (some ad669) l0_3.length c0_3 x6_3 (wrap64 (x6_3 + 1)) q062 ql62 q62 hroom62;have hr62:=Kd.C_mid (lo:=(x6_3:Int).toNat) (hi:=((wrap64 (x6_3 + 1)):Int).toNat) (c:=c0_3) hC62 (by omega) (by omega) hroom62;obtain⟨A62,hA62⟩:∃A1,A1=(if c0_3=(x6_3:Int).toNat then (some ad669) else ((some ad669):Option Addr).map (·.add ((x6_3:Int).toNat * 8))):=⟨_,rfl⟩;obtain⟨c62,hc62⟩:∃c1,c1=c0_3 - (x6_3:Int).toNat:=⟨_,rfl⟩;have hy62:y672.length=((wrap64 (x6_3 + 1)):Int).toNat - (x6_3:Int).toNat:=(by rw [Ny672.out,List.length_drop,List.length_take] <;> omega);rw [show((l0_3).take ((wrap64 (x6_3 + 1)):Int).toNat).drop (x6_3:Int).toNat=y672 from Ny672.out.symm] at hr62;replace hr62:Kd.C k54 _ A62 y672.length y672:=(by rw [hA62];exact hr62);rw [←hy62,←hA62,←hc62] at hcut62;have HR675:=Aside0.mk hr62;have HC675:=My.m (show y672.length≤c62 from by rw [hy62,hc62];exact Nat.sub_le_sub_right (Nat.le_trans (by omega) hroom62) _);clear hr62 hC62 hroom62 hi062 hsz62 hc62;have KY62:=Aside0.mk hy62;have KA62:=Aside0.mk hA62;clear hy62 hA62;replace q62:=eq_true q62;obtain⟨Ao63,co63,eo63⟩:=Kd.V_slice HO_4.out;(first|subst eo63|(injection eo63 with f1_ f2_ f3_;have f4_:=f1_.symm;have f5_:=f3_.symm;clear f1_ f2_ f3_;subst f4_;subst f5_));refine start_ (n:=11) (S:=fun w'=> w'.cell? ⟨gb666,0,none⟩=some (.int .i64 a0_0)∧w'.cell? ⟨gb666,1,none⟩=some (.int .i64 a0_1)∧w'.cell? ⟨gb666,2,none⟩=some (.slice A0_2 l0_2.length c0_2)∧w'.cell? ⟨gb666,3,none⟩=some (.slice (some ad669) l0_3.length c0_3)∧w'.cell? ⟨gb670,0,none⟩=some (.int .i64 ((rd_T54 l0_3 x6_3).f0))∧w'.cell? ⟨gb670,1,none⟩=some (.bool ((rd_T54 l0_3 x6_3).f1))∧w'.cell? ⟨gb670,2,none⟩=some (.string ((rd_T54 l0_3 x6_3).f2.f0))∧w'.cell? ⟨gb670,3,none⟩=some (.string ((rd_T54 l0_3 x6_3).f2.f1))∧w'.cell? ⟨gb670,4,none⟩=some (.int .i64 ((rd_T54 l0_3 x6_3).f2.f2))∧w'.cell? ⟨gb670,5,none⟩=some (.int .i64 ((rd_T54 l0_3 x6_3).f2.f3))∧w'.cell? ⟨gb670,6,none⟩=some (.int .i64 ((rd_T54 l0_3 x6_3).f2.f4))∧w'.cell? ⟨gb670,7,none⟩=some (.int .i64 ((rd_T54 l0_3 x6_3).f2.f5))) (ds:= []) (My.bl 11 0) (by kernel_rfl) rfl (by kernel_rfl) ⟨(blk_cell BK666.out 0).trans rfl,(blk_cell BK666.out 1).trans rfl,(blk_cell BK666.out 2).trans rfl,(blk_cell BK666.out 3).trans rfl,(blk_cell BK670.out 0).trans rfl,(blk_cell BK670.out 1).trans rfl,(blk_cell BK670.out 2).trans rfl,(blk_cell BK670.out 3).trans rfl,(blk_cell BK670.out 4).trans rfl,(blk_cell BK670.out 5).trans rfl,(blk_cell BK670.out 6).trans rfl,(blk_cell BK670.out 7).trans rfl⟩ (fun hHeld=> ?_);refine with_tabW batonref05_May.tab16 batonref05_May.bits16 (fun HT_ HW_=> ?_);generalize wc.drew=w61 at HO_4 HO_667002 BK666 BK670 HB HR675 hHeld⊢;refine My.pu 0 97 1 HT_ ?_;refine My.pu 1 98 3 HT_ ?_;refine My.pu 3 100 11 HT_ ?_;refine My.pu 4 101 27 HT_ ?_;refine My.pu 5 102 59 HT_ ?_;refine My.pu 7 104 187 HT_ ?_;refine My.tk 2 99 191 HT_ HW_ hHeld ?_;refine My.pu 6 103 255 HT_ ?_;refine My.tk 8 105 511 HT_ HW_ hHeld ?_;refine one_ (i:=9) (N:=some 106) (My.bl 11 1023) rfl rfl (one_of HT_.out (by kernel_rfl)) (by decide) (fun K hK=> ?_);refine goes_ Try.func43 (by kernel_rfl) rfl #[.slice Ao63 x4_3.length co63,.slice A62 y672.length c62,.int .i64 ((rd_T54 l0_3 x6_3).f0)] (by rfl) rfl rfl My.ar ?_;(with_reducible refine(batonref04_Fold.calls kj31 (fun k_=> ((P0_2_ k_∨w.heap.size≤k_)∧(k_≠gb666∧k_≠gb670))) _ _ x4_3 _ _ y672 ((rd_T54 l0_3 x6_3).f0) t676 _ ?side1 ?side2 ?side3 A59.out).mono ?_)
                  (case side1=> exact HO_4.out)
                  (case side2=> exact My.Ca (Kd.C_below HR675.out HB.out))
                  (case side3=> exact HC675.out)
                  rintro e w64 ⟨v677,rfl,ho0,hb⟩;refine⟨_,rfl,?_⟩;replace HO_4:=My.m (Kd.V_below (My.Va HO_4.out) hb);replace HO_667002:=My.m (Kd.V_below (My.Va HO_667002.out) hb);have HO678:=My.m (Kd.V_lower (Kd.V_mono (ok':=fun k_=> (P0_2_ k_∨w.heap.size≤k_)∧k_≠gb666∧k_≠gb670) ho0 (fun k_ hk_=> ⟨Or.elim hk_ (fun hs_=> hs_.1) (fun hn_=> (.inr (Nat.le_trans (below_size My.bA) hn_))),Or.elim hk_ (fun hs_=> hs_.2.1) (fun hn_=> (Kd.freshB (g:=gb666) (o:= .cells #[.int .i64 a0_0,.int .i64 a0_1,.slice A0_2 l0_2.length c0_2,.slice (some ad669) l0_3.length c0_3] 42 (0,0)) (My.Ka BK666.out) k_ hn_)),Or.elim hk_ (fun hs_=> hs_.2.2) (fun hn_=> (Kd.freshB (g:=gb670) (o:= .cells #[.int .i64 ((rd_T54 l0_3 x6_3).f0),.bool ((rd_T54 l0_3 x6_3).f1),.string ((rd_T54 l0_3 x6_3).f2.f0),.string ((rd_T54 l0_3 x6_3).f2.f1),.int .i64 ((rd_T54 l0_3 x6_3).f2.f2),.int .i64 ((rd_T54 l0_3 x6_3).f2.f3),.int .i64 ((rd_T54 l0_3 x6_3).f2.f4),.int .i64 ((rd_T54 l0_3 x6_3).f2.f5)] 54 (0,0)) (My.Ka BK670.out) k_ hn_))⟩)) (below_size My.bA));replace BK666:=My.m (My.kb BK666.out hb);replace BK670:=My.m (My.kb BK670.out hb);replace HB:=My.m (below_step My.bA hb);(try clear ho0);refine hK.out _ _ ⟨(blk_cell BK666.out 0).trans rfl,(blk_cell BK666.out 1).trans rfl,(blk_cell BK666.out 2).trans rfl,(blk_cell BK666.out 3).trans rfl,(blk_cell BK670.out 0).trans rfl,(blk_cell BK670.out 1).trans rfl,(blk_cell BK670.out 2).trans rfl,(blk_cell BK670.out 3).trans rfl,(blk_cell BK670.out 4).trans rfl,(blk_cell BK670.out 5).trans rfl,(blk_cell BK670.out 6).trans rfl,(blk_cell BK670.out 7).trans rfl⟩ (fun hHeld=> ?_);clear hK K;refine norm_ (a':= ?_) ?_ ?_;rotate_left
                  ·show Act.put _ (some 106) _=_
                   simp only [Act.put,List.setIfInBounds_toArray,List.set_cons_zero,List.set_cons_succ,i64_w,i32_w];rfl
                  refine My.pu 10 4 2047 HT_ ?_;refine done_ (done_of HT_.out (by kernel_rfl)) ?_;have hnb65:=NB670_666.out;have hnc65:=NB666_670.out;obtain⟨_,_,_,_,_,_,_,_⟩:=My.qc8 BK670.out;obtain⟨_,_,_,_,_,_,_,_⟩:=My.qf8 BK670.out;obtain⟨Ao67,co67,eo67⟩:=Kd.V_slice HO678.out;subst eo67;(try go_wp2)
                  go_ret
                  exact⟨My.q1,My.bA⟩
                 ·rw [if_neg c60] at H
                  have c60b0:=decide_eq_false c60;have c60b1:decide (30 < t676.length)=false:=decide_eq_false (by omega);clear c60;have H':=Aside0.mk H;clear H;(try go_wp2);replace HO_4:=My.m (Kd.V_drew HO_4.out);replace HO_667002:=My.m (Kd.V_drew HO_667002.out);replace BK666:=My.m (blk_drew BK666.out);replace BK670:=My.m (blk_drew BK670.out);replace HB:=My.m (below_drew1 HB.out);have q69:((wrap64 (x6_3 + 1)):Int)≤((l0_3.length:Int):Int):=of_decide_eq_true My.as;obtain⟨i069,hi069,_,hsz69,_⟩:=info_parts info54;have hroom69:l0_3.length≤c0_3:=HC0_3.out;have hC69:Kd.C k54 _ (some ad669) l0_3.length l0_3:=HR0_3.out;have ql69:(x6_3:Int)≤((wrap64 (x6_3 + 1)):Int):=of_decide_eq_true My.as;have q069:(0:Int)≤(x6_3:Int):=of_decide_eq_true My.as;have hcut69:=cut_mid (P:=Try.prog) 35 54 .i64 .i64 Try.underlying35 hi069 8 hsz69 (some ad669) l0_3.length c0_3 x6_3 (wrap64 (x6_3 + 1)) q069 ql69 q69 hroom69;have hr69:=Kd.C_mid (lo:=(x6_3:Int).toNat) (hi:=((wrap64 (x6_3 + 1)):Int).toNat) (c:=c0_3) hC69 (by omega) (by omega) hroom69;obtain⟨A69,hA69⟩:∃A1,A1=(if c0_3=(x6_3:Int).toNat then (some ad669) else ((some ad669):Option Addr).map (·.add ((x6_3:Int).toNat * 8))):=⟨_,rfl⟩;obtain⟨c69,hc69⟩:∃c1,c1=c0_3 - (x6_3:Int).toNat:=⟨_,rfl⟩;have hy69:y672.length=((wrap64 (x6_3 + 1)):Int).toNat - (x6_3:Int).toNat:=(by rw [Ny672.out,List.length_drop,List.length_take] <;> omega);rw [show((l0_3).take ((wrap64 (x6_3 + 1)):Int).toNat).drop (x6_3:Int).toNat=y672 from Ny672.out.symm] at hr69;replace hr69:Kd.C k54 _ A69 y672.length y672:=(by rw [hA69];exact hr69);rw [←hy69,←hA69,←hc69] at hcut69;have HR675:=Aside0.mk hr69;have HC675:=My.m (show y672.length≤c69 from by rw [hy69,hc69];exact Nat.sub_le_sub_right (Nat.le_trans (by omega) hroom69) _);clear hr69 hC69 hroom69 hi069 hsz69 hc69;have KY69:=Aside0.mk hy69;have KA69:=Aside0.mk hA69;clear hy69 hA69;replace q69:=eq_true q69;obtain⟨Ao70,co70,eo70⟩:=Kd.V_slice HO_4.out;(first|subst eo70|(injection eo70 with f1_ f2_ f3_;have f4_:=f1_.symm;have f5_:=f3_.symm;clear f1_ f2_ f3_;subst f4_;subst f5_));refine start_ (n:=11) (S:=fun w'=> w'.cell? ⟨gb666,0,none⟩=some (.int .i64 a0_0)∧w'.cell? ⟨gb666,1,none⟩=some (.int .i64 a0_1)∧w'.cell? ⟨gb666,2,none⟩=some (.slice A0_2 l0_2.length c0_2)∧w'.cell? ⟨gb666,3,none⟩=some (.slice (some ad669) l0_3.length c0_3)∧w'.cell? ⟨gb670,0,none⟩=some (.int .i64 ((rd_T54 l0_3 x6_3).f0))∧w'.cell? ⟨gb670,1,none⟩=some (.bool ((rd_T54 l0_3 x6_3).f1))∧w'.cell? ⟨gb670,2,none⟩=some (.string ((rd_T54 l0_3 x6_3).f2.f0))∧w'.cell? ⟨gb670,3,none⟩=some (.string ((rd_T54 l0_3 x6_3).f2.f1))∧w'.cell? ⟨gb670,4,none⟩=some (.int .i64 ((rd_T54 l0_3 x6_3).f2.f2))∧w'.cell? ⟨gb670,5,none⟩=some (.int .i64 ((rd_T54 l0_3 x6_3).f2.f3))∧w'.cell? ⟨gb670,6,none⟩=some (.int .i64 ((rd_T54 l0_3 x6_3).f2.f4))∧w'.cell? ⟨gb670,7,none⟩=some (.int .i64 ((rd_T54 l0_3 x6_3).f2.f5))) (ds:= []) (My.bl 11 0) (by kernel_rfl) rfl (by kernel_rfl) ⟨(blk_cell BK666.out 0).trans rfl,(blk_cell BK666.out 1).trans rfl,(blk_cell BK666.out 2).trans rfl,(blk_cell BK666.out 3).trans rfl,(blk_cell BK670.out 0).trans rfl,(blk_cell BK670.out 1).trans rfl,(blk_cell BK670.out 2).trans rfl,(blk_cell BK670.out 3).trans rfl,(blk_cell BK670.out 4).trans rfl,(blk_cell BK670.out 5).trans rfl,(blk_cell BK670.out 6).trans rfl,(blk_cell BK670.out 7).trans rfl⟩ (fun hHeld=> ?_);refine with_tabW batonref05_May.tab16 batonref05_May.bits16 (fun HT_ HW_=> ?_);generalize wc.drew=w68 at HO_4 HO_667002 BK666 BK670 HB HR675 hHeld⊢;refine My.pu 0 97 1 HT_ ?_;refine My.pu 1 98 3 HT_ ?_;refine My.pu 3 100 11 HT_ ?_;refine My.pu 4 101 27 HT_ ?_;refine My.pu 5 102 59 HT_ ?_;refine My.pu 7 104 187 HT_ ?_;refine My.tk 2 99 191 HT_ HW_ hHeld ?_;refine My.pu 6 103 255 HT_ ?_;refine My.tk 8 105 511 HT_ HW_ hHeld ?_;refine one_ (i:=9) (N:=some 106) (My.bl 11 1023) rfl rfl (one_of HT_.out (by kernel_rfl)) (by decide) (fun K hK=> ?_);refine goes_ Try.func43 (by kernel_rfl) rfl #[.slice Ao70 x4_3.length co70,.slice A69 y672.length c69,.int .i64 ((rd_T54 l0_3 x6_3).f0)] (by rfl) rfl rfl My.ar ?_;(with_reducible refine(batonref04_Fold.calls kj31 (fun k_=> ((P0_2_ k_∨w.heap.size≤k_)∧(k_≠gb666∧k_≠gb670))) _ _ x4_3 _ _ y672 ((rd_T54 l0_3 x6_3).f0) t676 _ ?side1 ?side2 ?side3 A59.out).mono ?_)
                  (case side1=> exact HO_4.out)
                  (case side2=> exact My.Ca (Kd.C_below HR675.out HB.out))
                  (case side3=> exact HC675.out)
                  rintro e w71 ⟨v677,rfl,ho0,hb⟩;refine⟨_,rfl,?_⟩;replace HO_4:=My.m (Kd.V_below (My.Va HO_4.out) hb);replace HO_667002:=My.m (Kd.V_below (My.Va HO_667002.out) hb);have HO678:=My.m (Kd.V_lower (Kd.V_mono (ok':=fun k_=> (P0_2_ k_∨w.heap.size≤k_)∧k_≠gb666∧k_≠gb670) ho0 (fun k_ hk_=> ⟨Or.elim hk_ (fun hs_=> hs_.1) (fun hn_=> (.inr (Nat.le_trans (below_size My.bA) hn_))),Or.elim hk_ (fun hs_=> hs_.2.1) (fun hn_=> (Kd.freshB (g:=gb666) (o:= .cells #[.int .i64 a0_0,.int .i64 a0_1,.slice A0_2 l0_2.length c0_2,.slice (some ad669) l0_3.length c0_3] 42 (0,0)) (My.Ka BK666.out) k_ hn_)),Or.elim hk_ (fun hs_=> hs_.2.2) (fun hn_=> (Kd.freshB (g:=gb670) (o:= .cells #[.int .i64 ((rd_T54 l0_3 x6_3).f0),.bool ((rd_T54 l0_3 x6_3).f1),.string ((rd_T54 l0_3 x6_3).f2.f0),.string ((rd_T54 l0_3 x6_3).f2.f1),.int .i64 ((rd_T54 l0_3 x6_3).f2.f2),.int .i64 ((rd_T54 l0_3 x6_3).f2.f3),.int .i64 ((rd_T54 l0_3 x6_3).f2.f4),.int .i64 ((rd_T54 l0_3 x6_3).f2.f5)] 54 (0,0)) (My.Ka BK670.out) k_ hn_))⟩)) (below_size My.bA));replace BK666:=My.m (My.kb BK666.out hb);replace BK670:=My.m (My.kb BK670.out hb);replace HB:=My.m (below_step My.bA hb);(try clear ho0);refine hK.out _ _ ⟨(blk_cell BK666.out 0).trans rfl,(blk_cell BK666.out 1).trans rfl,(blk_cell BK666.out 2).trans rfl,(blk_cell BK666.out 3).trans rfl,(blk_cell BK670.out 0).trans rfl,(blk_cell BK670.out 1).trans rfl,(blk_cell BK670.out 2).trans rfl,(blk_cell BK670.out 3).trans rfl,(blk_cell BK670.out 4).trans rfl,(blk_cell BK670.out 5).trans rfl,(blk_cell BK670.out 6).trans rfl,(blk_cell BK670.out 7).trans rfl⟩ (fun hHeld=> ?_);clear hK K;refine norm_ (a':= ?_) ?_ ?_;rotate_left
                  ·show Act.put _ (some 106) _=_
                   simp only [Act.put,List.setIfInBounds_toArray,List.set_cons_zero,List.set_cons_succ,i64_w,i32_w];rfl
                  refine My.pu 10 4 2047 HT_ ?_;refine done_ (done_of HT_.out (by kernel_rfl)) ?_;have hnb72:=NB670_666.out;have hnc72:=NB666_670.out;obtain⟨_,_,_,_,_,_,_,_⟩:=My.qc8 BK670.out;obtain⟨_,_,_,_,_,_,_,_⟩:=My.qf8 BK670.out;obtain⟨Ao74,co74,eo74⟩:=Kd.V_slice HO678.out;subst eo74;(try go_wp2)
                  go_roundg kj31
                  case measure=> have:=HJ1.out;have:=HK2.out;have:=HK3.out;have:=HJ31.out;omega
                  case rel=> exact⟨(t676),(((rd_T54 l0_3 x6_3).f0)),(wrap64 (x6_3 + 1)),My.q0,My.q0,H',⟨by have:=HJ1.out;have:=HK2.out;have:=HK3.out;have:=HJ31.out;omega⟩,⟨by(with_reducible repeat(first|apply Kd.V_alloc|apply Kd.V_drewN|apply Kd.V_drew));exact Kd.V_mono HO678.out (fun _ hk=> ⟨hk.1,hk.2.1⟩)⟩,⟨by(with_reducible repeat(first|apply Kd.V_alloc|apply Kd.V_drewN|apply Kd.V_drew));exact Kd.V_mono HO_667002.out (fun _ hk=> ⟨hk.1,hk.2.1⟩)⟩,⟨My.Ka BK666.out⟩,⟨My.bA⟩⟩
                ·exact My.no c58 H
               ·exact My.no c57 H
              ·exact My.no c56 H
          ·exact My.no c31 H
         ·rw [if_neg c30] at H
          have c30b0:=decide_eq_false c30;clear c30;obtain rfl:=Option.some.inj H;obtain⟨_,_,_,_⟩:=My.qc4 BK666.out;obtain⟨_,_,_,_⟩:=My.qf4 BK666.out
          go_wp2
          go_ret
          exact⟨My.q1,My.bA⟩

/-! ### batonref05_Now: function 28 -/
def batonref05_Now.f (k:Nat) (a0_0:Int) (a0_1:Int) (l0_2:List (S26)) (l0_3:List (S54)):Option ((List (S26))):=(batonref04_Fold.f k l0_2 l0_3 a0_0).bind fun t680=> (some t680)
theorem batonref05_Now.mono:∀a0 a1 a2 a3 k,LeO (batonref05_Now.f k a0 a1 a2 a3) (batonref05_Now.f (k + 1) a0 a1 a2 a3):=by
  intro a0 a1 a2 a3 k
  unfold batonref05_Now.f
  have ic0:= @batonref04_Fold.mono;exact My.mono_
set_option maxHeartbeats 80000000 in
set_option maxRecDepth 100000 in
theorem batonref05_Now.calls (k:Nat) (a0_0:Int) (a0_1:Int) (P0_2_:Nat→Prop) (A0_2:Option Addr) (c0_2:Nat) (l0_2:List (S26)) (A0_3:Option Addr) (c0_3:Nat) (l0_3:List (S54)) (r:List (S26)) (w:World) (hs0_2:Kd.V k26 26 w w.heap.size (fun k_=> P0_2_ k_) (.slice A0_2 l0_2.length c0_2) l0_2) (hr0_3:Kd.C k54 w A0_3 l0_3.length l0_3) (hc0_3:l0_3.length≤c0_3) (h:batonref05_Now.f k a0_0 a0_1 l0_2 l0_3=some r):
    Calls Try.prog 28 #[.agg #[.int .i64 a0_0,.int .i64 a0_1,.slice A0_2 l0_2.length c0_2,.slice A0_3 l0_3.length c0_3]] w fun e w'=> ∃v0_:Value,e= .returned (v0_)∧Kd.V k26 26 w' w.heap.size (fun k_=> (P0_2_ k_∨w.heap.size≤k_)) v0_ r∧Below w.heap.size w w':=by
  have hu42:=Try.underlying42;have HO0_2:=My.m (show Kd.V k26 26 w w.heap.size (fun k_=> (P0_2_ k_∨w.heap.size≤k_)) (.slice A0_2 l0_2.length c0_2) l0_2 from Kd.V_mono hs0_2 (fun k_ hk=> .inl hk));have HR0_3:=Aside0.mk hr0_3;have HC0_3:=Aside0.mk hc0_3;clear hr0_3 hc0_3;have HB:=My.m (Below.refl w.heap.size w);have H:=h;clear h;unfold batonref05_Now.f at H;replace H:=Option.bind_eq_some_iff.mp H;obtain⟨t680,A20,H⟩:=H;have A2:=Aside0.mk A20;clear A20;obtain rfl:=Option.some.inj H
  go_enter Try.func28,Try.ntmps28
  go_wp2_with (first|((with_reducible refine gate_dst (N:=1) rfl ?_);refine My.be 1 42 #[.int .i64 a0_0,.int .i64 a0_1,.slice A0_2 l0_2.length c0_2,.slice A0_3 l0_3.length c0_3] ?_;intro gb679 hg w3 hbox hb;replace HO0_2:=My.m (Kd.V_below (Kd.V_elderB (My.Va HO0_2.out) gb679 (Nat.le_of_eq hg.symm)) hb);have BK679:=My.m hbox;have GW679:=My.m ((My.nw w hg My.bB));have GE679:=My.m ((My.nw w hg My.bB));replace HB:=My.m (below_step My.bB hb);clear hb hbox hg;obtain⟨_,_,_,_⟩:=My.qc4 BK679.out;obtain⟨_,_,_,_⟩:=My.qf4 BK679.out)|((with_reducible refine gate_callee (f:=43) rfl ?_);refine goesL_ (some 9) rfl rfl Try.func43 (by kernel_rfl) rfl #[.slice A0_2 l0_2.length c0_2,.slice A0_3 l0_3.length c0_3,.int .i64 a0_0] rfl My.ar ?_;(with_reducible refine(batonref04_Fold.calls k (fun k_=> ((P0_2_ k_∨w.heap.size≤k_)∧k_≠gb679)) _ _ l0_2 _ _ l0_3 a0_0 t680 _ ?side1 ?side2 ?side3 A2.out).mono ?_);(case side1=> exact HO0_2.out);(case side2=> exact My.Ca (Kd.C_below HR0_3.out HB.out));(case side3=> exact HC0_3.out);rintro e w5 ⟨v681,rfl,ho0,hb⟩;refine⟨_,rfl,?_⟩;replace HO0_2:=My.m (Kd.V_below (My.Va HO0_2.out) hb);have HO682:=My.m (Kd.V_lower (Kd.V_mono (ok':=fun k_=> (P0_2_ k_∨w.heap.size≤k_)∧k_≠gb679) ho0 (fun k_ hk_=> ⟨Or.elim hk_ (fun hs_=> hs_.1) (fun hn_=> (.inr (Nat.le_trans (below_size My.bA) hn_))),Or.elim hk_ (fun hs_=> hs_.2) (fun hn_=> (Kd.freshB (g:=gb679) (o:= .cells #[.int .i64 a0_0,.int .i64 a0_1,.slice A0_2 l0_2.length c0_2,.slice A0_3 l0_3.length c0_3] 42 (0,0)) (My.Ka BK679.out) k_ hn_))⟩)) (below_size My.bA));replace BK679:=My.m (My.kb BK679.out hb);replace HB:=My.m (below_step My.bA hb);(repeat first|clear hb|clear hb2|clear hk|clear hi|clear ho0)))
  go_ret
  exact⟨_,My.q1,by(with_reducible repeat(first|apply Kd.V_alloc|apply Kd.V_drewN|apply Kd.V_drew));exact Kd.V_mono HO682.out (fun _ hk=> hk.1),My.bA⟩

/-! ### batonref05_At: function 24 -/
def batonref05_At.j0:Nat→Int→Bool→Int→Int→List (S26)→List (S54)→Option ((List (S26))×Int)
  |0,_,_,_,_,_,_=> none
  |k + 1,x1,x17,x684000,x684001,x684002,x684003=> if x17=true then (some (([]:List (S26)),8)) else (if x1 < x684001 then (some (([]:List (S26)),9)) else ((batonref04_Fold.f k x684002 x684003 x1).bind fun t687=> (some (t687,0))))
def batonref05_At.f (k:Nat) (a0_0:Int) (a0_1:Int) (l0_2:List (S26)) (l0_3:List (S54)) (a1:Int):Option ((List (S26))×Int):=if a1=0 then ((batonref05_Now.f k a0_0 a0_1 l0_2 l0_3).bind fun t684=> (some (t684,0))) else (if a1 < 0 then (batonref05_At.j0 k a1 true a0_0 a0_1 l0_2 l0_3) else (batonref05_At.j0 k a1 (decide (a1 > a0_0)) a0_0 a0_1 l0_2 l0_3))
theorem batonref05_At.mono_l:∀k,(∀y0 y1 y2 y3 y4 y5,LeO (batonref05_At.j0 k y0 y1 y2 y3 y4 y5) (batonref05_At.j0 (k + 1) y0 y1 y2 y3 y4 y5))
  |0=> fun _ _ _ _ _ _ r h=> by simp [batonref05_At.j0] at h
  |k + 1=> by
    have ih0:=batonref05_At.mono_l k
    · intro y0 y1 y2 y3 y4 y5
      unfold batonref05_At.j0
      have ic0:= @batonref04_Fold.mono;have ic1:= @batonref05_Now.mono;exact My.mono_
theorem batonref05_At.mono:∀a0 a1 a2 a3 a4 k,LeO (batonref05_At.f k a0 a1 a2 a3 a4) (batonref05_At.f (k + 1) a0 a1 a2 a3 a4):=by
  intro a0 a1 a2 a3 a4 k
  have ih0:=batonref05_At.mono_l k
  unfold batonref05_At.f
  have ic0:= @batonref04_Fold.mono;have ic1:= @batonref05_Now.mono;exact My.mono_
set_option maxHeartbeats 80000000 in
set_option maxRecDepth 100000 in
theorem batonref05_At.calls (k:Nat) (a0_0:Int) (a0_1:Int) (P0_2_:Nat→Prop) (A0_2:Option Addr) (c0_2:Nat) (l0_2:List (S26)) (A0_3:Option Addr) (c0_3:Nat) (l0_3:List (S54)) (a1:Int) (r1:List (S26)) (r2:Int) (w:World) (hs0_2:Kd.V k26 26 w w.heap.size (fun k_=> P0_2_ k_) (.slice A0_2 l0_2.length c0_2) l0_2) (hr0_3:Kd.C k54 w A0_3 l0_3.length l0_3) (hc0_3:l0_3.length≤c0_3) (h:batonref05_At.f k a0_0 a0_1 l0_2 l0_3 a1=some (r1,r2)):
    Calls Try.prog 24 #[.agg #[.int .i64 a0_0,.int .i64 a0_1,.slice A0_2 l0_2.length c0_2,.slice A0_3 l0_3.length c0_3],.int .i64 a1] w fun e w'=> ∃v0_:Value,e= .returned (.tuple #[v0_,.int .i64 r2])∧Kd.V k26 26 w' w.heap.size (fun k_=> (P0_2_ k_∨w.heap.size≤k_)) v0_ r1∧Below w.heap.size w w':=by
  have hu42:=Try.underlying42;have HO0_2:=My.m (show Kd.V k26 26 w w.heap.size (fun k_=> (P0_2_ k_∨w.heap.size≤k_)) (.slice A0_2 l0_2.length c0_2) l0_2 from Kd.V_mono hs0_2 (fun k_ hk=> .inl hk));have HR0_3:=Aside0.mk hr0_3;have HC0_3:=Aside0.mk hc0_3;clear hr0_3 hc0_3;have HB:=My.m (Below.refl w.heap.size w);have H:(if a1=0 then ((batonref05_Now.f k a0_0 a0_1 l0_2 l0_3).bind fun t684=> (some (t684,0))) else (if a1 < 0 then (batonref05_At.j0 k a1 true a0_0 a0_1 l0_2 l0_3) else (batonref05_At.j0 k a1 (decide (a1 > a0_0)) a0_0 a0_1 l0_2 l0_3)))=some (r1,r2):=h;clear h
  by_cases c3:a1=0
  · rw [if_pos c3] at H
    have c3b0:(a1 == 0)=true:=beq_iff_eq.mpr c3;have c3b1:(a1 != 0)=false:=bne_eq_false_iff_eq.mpr c3;clear c3;replace H:=Option.bind_eq_some_iff.mp H;obtain⟨t684,A40,H⟩:=H;have A4:=Aside0.mk A40;clear A40;simp only [Option.some.injEq,Prod.mk.injEq] at H;obtain⟨rfl,rfl⟩:=H
    go_enter Try.func24,Try.ntmps24
    go_wp2_with (first|((with_reducible refine gate_dst (N:=2) rfl ?_);refine My.be 2 42 #[.int .i64 a0_0,.int .i64 a0_1,.slice A0_2 l0_2.length c0_2,.slice A0_3 l0_3.length c0_3] ?_;intro gb683 hg w5 hbox hb;replace HO0_2:=My.m (Kd.V_below (Kd.V_elderB (My.Va HO0_2.out) gb683 (Nat.le_of_eq hg.symm)) hb);have BK683:=My.m hbox;have GW683:=My.m ((My.nw w hg My.bB));have GE683:=My.m ((My.nw w hg My.bB));replace HB:=My.m (below_step My.bB hb);clear hb hbox hg;obtain⟨hcz6_0,hcz6_1,hcz6_2,hcz6_3⟩:=My.qc4 BK683.out;obtain⟨hfz6_0,hfz6_1,hfz6_2,hfz6_3⟩:=My.qf4 BK683.out)|((with_reducible refine gate_callee (f:=28) rfl ?_);refine goesL_ (some 9) rfl rfl Try.func28 (by kernel_rfl) rfl #[.agg #[.int .i64 a0_0,.int .i64 a0_1,.slice A0_2 l0_2.length c0_2,.slice A0_3 l0_3.length c0_3]] rfl My.ar ?_;(with_reducible refine(batonref05_Now.calls k a0_0 a0_1 (fun k_=> ((P0_2_ k_∨w.heap.size≤k_)∧k_≠gb683)) _ _ l0_2 _ _ l0_3 t684 _ ?side1 ?side2 ?side3 A4.out).mono ?_);(case side1=> exact HO0_2.out);(case side2=> exact My.Ca (Kd.C_below HR0_3.out HB.out));(case side3=> exact HC0_3.out);rintro e w7 ⟨v685,rfl,ho0,hb⟩;refine⟨_,rfl,?_⟩;replace HO0_2:=My.m (Kd.V_below (My.Va HO0_2.out) hb);have HO686:=My.m (Kd.V_lower (Kd.V_mono (ok':=fun k_=> (P0_2_ k_∨w.heap.size≤k_)∧k_≠gb683) ho0 (fun k_ hk_=> ⟨Or.elim hk_ (fun hs_=> hs_.1) (fun hn_=> (.inr (Nat.le_trans (below_size My.bA) hn_))),Or.elim hk_ (fun hs_=> hs_.2) (fun hn_=> (Kd.freshB (g:=gb683) (o:= .cells #[.int .i64 a0_0,.int .i64 a0_1,.slice A0_2 l0_2.length c0_2,.slice A0_3 l0_3.length c0_3] 42 (0,0)) (My.Ka BK683.out) k_ hn_))⟩)) (below_size My.bA));replace BK683:=My.m (My.kb BK683.out hb);replace HB:=My.m (below_step My.bA hb);(repeat first|clear hb|clear hb2|clear hk|clear hi|clear ho0)))
    go_ret2
    exact⟨_,My.q1,by(with_reducible repeat(first|apply Kd.V_alloc|apply Kd.V_drewN|apply Kd.V_drew));exact Kd.V_mono HO686.out (fun _ hk=> hk.1),My.bA⟩
  · rw [if_neg c3] at H
    have c3b0:(a1 == 0)=false:=beq_eq_false_iff_ne.mpr c3;have c3b1:(a1 != 0)=true:=bne_iff_ne.mpr c3;have HC8:=Aside0.mk H;clear H
    go_enter Try.func24,Try.ntmps24
    go_upto_region 3 with (first|((with_reducible refine gate_dst (N:=2) rfl ?_);refine My.be 2 42 #[.int .i64 a0_0,.int .i64 a0_1,.slice A0_2 l0_2.length c0_2,.slice A0_3 l0_3.length c0_3] ?_;intro gb683 hg w9 hbox hb;replace HO0_2:=My.m (Kd.V_below (Kd.V_elderB (My.Va HO0_2.out) gb683 (Nat.le_of_eq hg.symm)) hb);have BK683:=My.m hbox;have GW683:=My.m ((My.nw w hg My.bB));have GE683:=My.m ((My.nw w hg My.bB));replace HB:=My.m (below_step My.bB hb);clear hb hbox hg))
    (try simp only [Act.put,List.setIfInBounds_toArray,List.set_cons_zero,List.set_cons_succ])
    go_cut [17] (fun v17 wc=> ∃(kq:Nat) (x17_7:Bool),v17= .bool x17_7∧Aside0 (batonref05_At.j0 kq a1 x17_7 a0_0 a0_1 l0_2 l0_3=some (r1,r2))∧Aside0 (kq≤k)∧Aside0 (Kd.V k26 26 wc w.heap.size (fun k_=> (P0_2_ k_∨w.heap.size≤k_)∧k_≠gb683) (.slice A0_2 l0_2.length c0_2) l0_2)∧Aside0 (wc.heap[gb683]? =some (.cells #[.int .i64 a0_0,.int .i64 a0_1,(.slice A0_2 l0_2.length c0_2),(.slice A0_3 l0_3.length c0_3)] 42 (0,0)))∧Aside0 (Below w.heap.size w wc))
    case first=>
      have H:=HC8.out;clear HC8
      by_cases c10:a1 < 0
      · rw [if_pos c10] at H
        have c10b0:=decide_eq_true c10;clear c10;(first|rw [c10b0]|(simp only [i64_w,i32_w];rw [c10b0])|skip);have H':=Aside0.mk H;clear H
        go_wp2
        go_meet
        case rel=> exact⟨_,(true),My.q0,H',⟨by first|omega|exact Nat.le_refl _⟩,⟨My.Va HO0_2.out⟩,⟨My.Ka BK683.out⟩,⟨My.bA⟩⟩
      · rw [if_neg c10] at H
        have c10b0:=decide_eq_false c10;clear c10;(first|rw [c10b0]|(simp only [i64_w,i32_w];rw [c10b0])|skip);have H':=Aside0.mk H;clear H;obtain⟨hcz11_0,hcz11_1,hcz11_2,hcz11_3⟩:=My.qc4 BK683.out;obtain⟨hfz11_0,hfz11_1,hfz11_2,hfz11_3⟩:=My.qf4 BK683.out
        go_wp2
        go_meet
        case rel=> exact⟨_,(decide (a1 > a0_0)),My.q0,H',⟨by first|omega|exact Nat.le_refl _⟩,⟨My.Va HO0_2.out⟩,⟨My.Ka BK683.out⟩,⟨My.bA⟩⟩
    case rest=>
      clear HC8;(repeat first|clear c1|clear c2|clear p2|clear c3|clear c3b0|clear c3b1|clear c10|clear c10b0|clear hcz11_0|clear hcz11_1|clear hcz11_2|clear hcz11_3|clear hcz6_0|clear hcz6_1|clear hcz6_2|clear hcz6_3|clear hfz11_0|clear hfz11_1|clear hfz11_2|clear hfz11_3|clear hfz6_0|clear hfz6_1|clear hfz6_2|clear hfz6_3);obtain⟨kq,x17_7,rfl,HA,HJ7,HO_684002,BK683,HB⟩:=hcut
      cases kq with
      |zero=> exact absurd HA.out (by simp [batonref05_At.j0])
      |succ kj7=>
        have H:=HA.out;clear HA;simp only [batonref05_At.j0] at H
        by_cases c12:x17_7=true
        · subst c12
          rw [if_pos rfl] at H;simp only [Option.some.injEq,Prod.mk.injEq] at H;obtain⟨rfl,rfl⟩:=H
          go_wp2
          go_ret2
          exact⟨_,My.q1,Kd.V_nil _ _ _ _ _,My.bA⟩
        · replace c12:=Bool.eq_false_iff.mpr c12
          subst c12;rw [if_neg (show¬(false=true) by decide)] at H
          by_cases c13:a1 < a0_1
          · rw [if_pos c13] at H
            have c13b0:=decide_eq_true c13;clear c13;simp only [Option.some.injEq,Prod.mk.injEq] at H;obtain⟨rfl,rfl⟩:=H;obtain⟨_,_,_,_⟩:=My.qc4 BK683.out;obtain⟨_,_,_,_⟩:=My.qf4 BK683.out
            go_wp2
            go_ret2
            exact⟨_,My.q1,Kd.V_nil _ _ _ _ _,My.bA⟩
          · rw [if_neg c13] at H
            have c13b0:=decide_eq_false c13;clear c13;replace H:=Option.bind_eq_some_iff.mp H;obtain⟨t687,A150,H⟩:=H;have A15:=Aside0.mk A150;clear A150;simp only [Option.some.injEq,Prod.mk.injEq] at H;obtain⟨rfl,rfl⟩:=H;obtain⟨_,_,_,_⟩:=My.qc4 BK683.out;obtain⟨_,_,_,_⟩:=My.qf4 BK683.out
            go_wp2_with (first|((with_reducible refine gate_callee (f:=43) rfl ?_);refine goesL_ (some 27) rfl rfl Try.func43 (by kernel_rfl) rfl #[.slice A0_2 l0_2.length c0_2,.slice A0_3 l0_3.length c0_3,.int .i64 a1] rfl My.ar ?_;(with_reducible refine(batonref04_Fold.calls kj7 (fun k_=> ((P0_2_ k_∨w.heap.size≤k_)∧k_≠gb683)) _ _ l0_2 _ _ l0_3 a1 t687 _ ?side1 ?side2 ?side3 A15.out).mono ?_);(case side1=> exact HO_684002.out);(case side2=> exact My.Ca (Kd.C_below HR0_3.out HB.out));(case side3=> exact HC0_3.out);rintro e w17 ⟨v688,rfl,ho0,hb⟩;refine⟨_,rfl,?_⟩;replace HO_684002:=My.m (Kd.V_below (My.Va HO_684002.out) hb);have HO689:=My.m (Kd.V_lower (Kd.V_mono (ok':=fun k_=> (P0_2_ k_∨w.heap.size≤k_)∧k_≠gb683) ho0 (fun k_ hk_=> ⟨Or.elim hk_ (fun hs_=> hs_.1) (fun hn_=> (.inr (Nat.le_trans (below_size My.bA) hn_))),Or.elim hk_ (fun hs_=> hs_.2) (fun hn_=> (Kd.freshB (g:=gb683) (o:= .cells #[.int .i64 a0_0,.int .i64 a0_1,.slice A0_2 l0_2.length c0_2,.slice A0_3 l0_3.length c0_3] 42 (0,0)) (My.Ka BK683.out) k_ hn_))⟩)) (below_size My.bA));replace BK683:=My.m (My.kb BK683.out hb);replace HB:=My.m (below_step My.bA hb);(repeat first|clear hb|clear hb2|clear hk|clear hi|clear ho0)))
            go_ret2
            exact⟨_,My.q1,by(with_reducible repeat(first|apply Kd.V_alloc|apply Kd.V_drewN|apply Kd.V_drew));exact Kd.V_mono HO689.out (fun _ hk=> hk.1),My.bA⟩

/-! ### batonref07_begins: function 56 -/
def batonref07_begins.f (a0:ByteArray) (a1:ByteArray):Option (Bool):=if (a0.size:Int)≥(a1.size:Int) then (if 0≤(a1.size:Int) then (if (a1.size:Int)≤(a0.size:Int) then (some ((a0.extract 0 ((a1.size:Int):Int).toNat).toList == a1.toList)) else (none)) else (none)) else (some false)
set_option maxHeartbeats 80000000 in
set_option maxRecDepth 100000 in
theorem batonref07_begins.calls (a0:ByteArray) (a1:ByteArray) (r:Bool) (w:World) (h:batonref07_begins.f a0 a1=some r):
    Calls Try.prog 56 #[.string a0,.string a1] w fun e w'=> e= .returned (.bool r)∧Drawn0 w w':=by
  have H:(if (a0.size:Int)≥(a1.size:Int) then (if 0≤(a1.size:Int) then (if (a1.size:Int)≤(a0.size:Int) then (some ((a0.extract 0 ((a1.size:Int):Int).toNat).toList == a1.toList)) else (none)) else (none)) else (some false))=some r:=h;clear h
  by_cases c3:(a0.size:Int)≥(a1.size:Int)
  · rw [if_pos c3] at H
    have c3b0:=decide_eq_true c3;have c3b1:decide (a1.size≤a0.size)=true:=decide_eq_true (Int.ofNat_le.mp c3);clear c3
    by_cases c4:0≤(a1.size:Int)
    · rw [if_pos c4] at H
      have c4b0:=eq_true c4;have c4b1:decide (0≤(a1.size:Int))=true:=decide_eq_true c4;clear c4
      by_cases c5:(a1.size:Int)≤(a0.size:Int)
      · rw [if_pos c5] at H
        have c5b0:=eq_true c5;have c5b1:decide ((a1.size:Int)≤(a0.size:Int))=true:=decide_eq_true c5;clear c5;obtain rfl:=Option.some.inj H
        go_enter Try.func56,Try.ntmps56
        go_wp2
        go_ret
        exact⟨My.q0,My.dD⟩
      · exact My.no c5 H
    · exact My.no c4 H
  · rw [if_neg c3] at H
    have c3b0:=decide_eq_false c3;have c3b1:decide (a1.size≤a0.size)=false:=decide_eq_false (fun h=> c3 (Int.ofNat_le.mpr h));clear c3;obtain rfl:=Option.some.inj H
    go_enter Try.func56,Try.ntmps56
    go_wp2
    go_ret
    exact⟨My.q0,My.dD⟩

/-! ### batonref07_Since: function 44 -/
mutual
def batonref07_Since.j0:Nat→ByteArray→Int→Int→Bool→Int→Int→List (S26)→List (S54)→Option ((List (S54))×Int×Int)
 |0,_,_,_,_,_,_,_,_=> none
 |k + 1,x1,x2,x3,x21,x691000,x691001,x691002,x691003=> if x21=true then (some (([]:List (S54)),0,1)) else (if x2 < 1 then (batonref07_Since.j1 k x1 x2 x3 true x691000 x691001 x691002 x691003) else (batonref07_Since.j1 k x1 x2 x3 (decide (x2 > (wrap64 (x691000 + 1)))) x691000 x691001 x691002 x691003))
def batonref07_Since.j1:Nat→ByteArray→Int→Int→Bool→Int→Int→List (S26)→List (S54)→Option ((List (S54))×Int×Int)
 |0,_,_,_,_,_,_,_,_=> none
 |k + 1,x1,x2,x3,x30,x691000,x691001,x691002,x691003=> if x30=true then (some (([]:List (S54)),0,8)) else (if x2≤x691001 then (some (([]:List (S54)),0,9)) else (batonref07_Since.l0 k x1 x2 x3 ([]:List (S54)) 0 x691000 x691001 x691002 x691003))
def batonref07_Since.l0:Nat→ByteArray→Int→Int→List (S54)→Int→Int→Int→List (S26)→List (S54)→Option ((List (S54))×Int×Int)
 |0,_,_,_,_,_,_,_,_,_=> none
 |k + 1,x1,x2,x3,x11,x12,x691000,x691001,x691002,x691003=> if x12 < (x691003.length:Int) then (if 0≤x12 then (if ((rd_T54 x691003 x12).f0)≥x2 then ((batonref07_begins.f ((rd_T54 x691003 x12).f2.f0) x1).bind fun t693=> (if t693=true then (if x11.length < 1759218604441 then (batonref07_Since.l0 k x1 x2 x3 (x11 ++ [(⟨(rd_T54 x691003 x12).f0,(rd_T54 x691003 x12).f1,(⟨(rd_T54 x691003 x12).f2.f0,(rd_T54 x691003 x12).f2.f1,(rd_T54 x691003 x12).f2.f2,(rd_T54 x691003 x12).f2.f3,(rd_T54 x691003 x12).f2.f4,(rd_T54 x691003 x12).f2.f5⟩:S26)⟩:S54)]) (wrap64 (x12 + 1)) x691000 x691001 x691002 x691003) else (none)) else (batonref07_Since.l0 k x1 x2 x3 x11 (wrap64 (x12 + 1)) x691000 x691001 x691002 x691003))) else (batonref07_Since.l0 k x1 x2 x3 x11 (wrap64 (x12 + 1)) x691000 x691001 x691002 x691003)) else (none)) else (if (x11.length:Int)≤x3 then (some (x11,wrap64 (x691000 + 1),0)) else (if 0≤x3 then (if x3 < (x11.length:Int) then (if 0 < (x11.length:Int) then (if ((rd_T54 x11 x3).f0)=((rd_T54 x11 0).f0) then (some (([]:List (S54)),0,4)) else (batonref07_Since.l1 k x11 ((rd_T54 x11 x3).f0) ([]:List (S54)) 0)) else (none)) else (none)) else (none)))
def batonref07_Since.l1:Nat→List (S54)→Int→List (S54)→Int→Option ((List (S54))×Int×Int)
 |0,_,_,_,_=> none
 |k + 1,x11,x13,x14,x15=> if x15 < (x11.length:Int) then (if 0≤x15 then (if ((rd_T54 x11 x15).f0) < x13 then (if x14.length < 1759218604441 then (batonref07_Since.l1 k x11 x13 (x14 ++ [(⟨(rd_T54 x11 x15).f0,(rd_T54 x11 x15).f1,(⟨(rd_T54 x11 x15).f2.f0,(rd_T54 x11 x15).f2.f1,(rd_T54 x11 x15).f2.f2,(rd_T54 x11 x15).f2.f3,(rd_T54 x11 x15).f2.f4,(rd_T54 x11 x15).f2.f5⟩:S26)⟩:S54)]) (wrap64 (x15 + 1))) else (none)) else (some (x14,x13,0))) else (none)) else (some (x14,x13,0))
end
def batonref07_Since.f (k:Nat) (a0_0:Int) (a0_1:Int) (l0_2:List (S26)) (l0_3:List (S54)) (a1:ByteArray) (a2:Int) (a3:Int):Option ((List (S54))×Int×Int):=if a3 < 1 then (batonref07_Since.j0 k a1 a2 a3 true a0_0 a0_1 l0_2 l0_3) else (batonref07_Since.j0 k a1 a2 a3 (decide (a3 > 30)) a0_0 a0_1 l0_2 l0_3)
theorem batonref07_Since.mono_l:∀k,(∀y0 y1 y2 y3 y4 y5 y6 y7,LeO (batonref07_Since.j0 k y0 y1 y2 y3 y4 y5 y6 y7) (batonref07_Since.j0 (k + 1) y0 y1 y2 y3 y4 y5 y6 y7))∧(∀y0 y1 y2 y3 y4 y5 y6 y7,LeO (batonref07_Since.j1 k y0 y1 y2 y3 y4 y5 y6 y7) (batonref07_Since.j1 (k + 1) y0 y1 y2 y3 y4 y5 y6 y7))∧(∀y0 y1 y2 y3 y4 y5 y6 y7 y8,LeO (batonref07_Since.l0 k y0 y1 y2 y3 y4 y5 y6 y7 y8) (batonref07_Since.l0 (k + 1) y0 y1 y2 y3 y4 y5 y6 y7 y8))∧(∀y0 y1 y2 y3,LeO (batonref07_Since.l1 k y0 y1 y2 y3) (batonref07_Since.l1 (k + 1) y0 y1 y2 y3))
 |0=> ⟨fun _ _ _ _ _ _ _ _ r h=> by simp [batonref07_Since.j0] at h,fun _ _ _ _ _ _ _ _ r h=> by simp [batonref07_Since.j1] at h,fun _ _ _ _ _ _ _ _ _ r h=> by simp [batonref07_Since.l0] at h,fun _ _ _ _ r h=> by simp [batonref07_Since.l1] at h⟩
 |k + 1=> by
  obtain⟨ih0,ih1,ih2,ih3⟩:=batonref07_Since.mono_l k
  refine⟨?_,?_,?_,?_⟩
  ·intro y0 y1 y2 y3 y4 y5 y6 y7
   unfold batonref07_Since.j0
   exact My.mono_
  ·intro y0 y1 y2 y3 y4 y5 y6 y7
   unfold batonref07_Since.j1
   exact My.mono_
  ·intro y0 y1 y2 y3 y4 y5 y6 y7 y8
   unfold batonref07_Since.l0
   exact My.mono_
  ·intro y0 y1 y2 y3
   unfold batonref07_Since.l1
   exact My.mono_
theorem batonref07_Since.mono:∀a0 a1 a2 a3 a4 a5 a6 k,LeO (batonref07_Since.f k a0 a1 a2 a3 a4 a5 a6) (batonref07_Since.f (k + 1) a0 a1 a2 a3 a4 a5 a6):=by
 intro a0 a1 a2 a3 a4 a5 a6 k
 obtain⟨ih0,ih1,ih2,ih3⟩:=batonref07_Since.mono_l k
 unfold batonref07_Since.f
 exact My.mono_
set_option maxHeartbeats 80000000 in
set_option maxRecDepth 100000 in
theorem batonref07_Since.calls (k:Nat) (a0_0:Int) (a0_1:Int) (A0_2:Option Addr) (c0_2:Nat) (l0_2:List (S26)) (A0_3:Option Addr) (c0_3:Nat) (l0_3:List (S54)) (a1:ByteArray) (a2:Int) (a3:Int) (r1:List (S54)) (r2:Int) (r3:Int) (w:World) (hr0_2:Kd.C k26 w A0_2 l0_2.length l0_2) (hc0_2:l0_2.length≤c0_2) (hr0_3:Kd.C k54 w A0_3 l0_3.length l0_3) (hc0_3:l0_3.length≤c0_3) (h:batonref07_Since.f k a0_0 a0_1 l0_2 l0_3 a1 a2 a3=some (r1,r2,r3)):
  Calls Try.prog 44 #[.agg #[.int .i64 a0_0,.int .i64 a0_1,.slice A0_2 l0_2.length c0_2,.slice A0_3 l0_3.length c0_3],.string a1,.int .i64 a2,.int .i64 a3] w fun e w'=> ∃v0_:Value,e= .returned (.tuple #[v0_,.int .i64 r2,.int .i64 r3])∧Kd.R k54 54 w' w.heap.size (fun _=> True) v0_ r1∧Below w.heap.size w w':=by
 have hu42:=Try.underlying42;have hu54:=Try.underlying54;have HR0_2:=Aside0.mk hr0_2;have HC0_2:=Aside0.mk hc0_2;clear hr0_2 hc0_2;have HR0_3:=Aside0.mk hr0_3;have HC0_3:=Aside0.mk hc0_3;clear hr0_3 hc0_3;have HB:=My.m (Below.refl w.heap.size w);have H:=h;clear h;unfold batonref07_Since.f at H;have HC5:=Aside0.mk H;clear H
 go_enter Try.func44,Try.ntmps44
 go_upto_region 1 with (first|((with_reducible refine gate_dst (N:=4) rfl ?_);refine My.be 4 42 #[.int .i64 a0_0,.int .i64 a0_1,.slice A0_2 l0_2.length c0_2,.slice A0_3 l0_3.length c0_3] ?_;intro gb690 hg w6 hbox hb;have BK690:=My.m hbox;have GW690:=My.m ((My.nw w hg My.bB));have GE690:=My.m ((My.nw w hg My.bB));replace HB:=My.m (below_step My.bB hb);clear hb hbox hg))
 repeat(go_quiet (first|((with_reducible refine gate_dst (N:=4) rfl ?_);refine My.be 4 42 #[.int .i64 a0_0,.int .i64 a0_1,.slice A0_2 l0_2.length c0_2,.slice A0_3 l0_3.length c0_3] ?_;intro gb690 hg w6 hbox hb;have BK690:=My.m hbox;have GW690:=My.m ((My.nw w hg My.bB));have GE690:=My.m ((My.nw w hg My.bB));replace HB:=My.m (below_step My.bB hb);clear hb hbox hg));go_upto_region 1 with (first|((with_reducible refine gate_dst (N:=4) rfl ?_);refine My.be 4 42 #[.int .i64 a0_0,.int .i64 a0_1,.slice A0_2 l0_2.length c0_2,.slice A0_3 l0_3.length c0_3] ?_;intro gb690 hg w6 hbox hb;have BK690:=My.m hbox;have GW690:=My.m ((My.nw w hg My.bB));have GE690:=My.m ((My.nw w hg My.bB));replace HB:=My.m (below_step My.bB hb);clear hb hbox hg)))
 (try simp only [Act.put,List.setIfInBounds_toArray,List.set_cons_zero,List.set_cons_succ])
 go_cut [21] (fun v21 wc=> ∃(kq:Nat) (x21_4:Bool),v21= .bool x21_4∧Aside0 (batonref07_Since.j0 kq a1 a2 a3 x21_4 a0_0 a0_1 l0_2 l0_3=some (r1,r2,r3))∧Aside0 (kq≤k)∧Aside0 (wc.heap[gb690]? =some (.cells #[.int .i64 a0_0,.int .i64 a0_1,(.slice A0_2 l0_2.length c0_2),(.slice A0_3 l0_3.length c0_3)] 42 (0,0)))∧Aside0 (Below w.heap.size w wc))
 case first=>
  have H:=HC5.out;clear HC5
  by_cases c7:a3 < 1
  ·rw [if_pos c7] at H
   have c7b0:=decide_eq_true c7;clear c7;(first|rw [c7b0]|(simp only [i64_w,i32_w];rw [c7b0])|skip);have H':=Aside0.mk H;clear H
   go_wp2
   repeat(go_quiet (fail);try go_wp2)
   go_meet
   case rel=> exact⟨_,(true),My.q0,H',⟨by first|omega|exact Nat.le_refl _⟩,⟨My.Ka BK690.out⟩,⟨My.bA⟩⟩
  ·rw [if_neg c7] at H
   have c7b0:=decide_eq_false c7;clear c7;(first|rw [c7b0]|(simp only [i64_w,i32_w];rw [c7b0])|skip);have H':=Aside0.mk H;clear H
   go_wp2
   repeat(go_quiet (fail);try go_wp2)
   go_meet
   case rel=> exact⟨_,(decide (a3 > 30)),My.q0,H',⟨by first|omega|exact Nat.le_refl _⟩,⟨My.Ka BK690.out⟩,⟨My.bA⟩⟩
 case rest=>
  clear HC5;(repeat first|clear p2|clear c4|clear c7|clear c7b0);obtain⟨kq,x21_4,rfl,HA,HJ4,BK690,HB⟩:=hcut
  cases kq with
  |zero=> exact absurd HA.out (by simp [batonref07_Since.j0])
  |succ kj4=>
   have H:=HA.out;clear HA;simp only [batonref07_Since.j0] at H
   by_cases c8:x21_4=true
   ·subst c8
    rw [if_pos rfl] at H;simp only [Option.some.injEq,Prod.mk.injEq] at H;obtain⟨rfl,rfl,rfl⟩:=H
    go_wp2
    repeat(go_quiet (fail);try go_wp2)
    go_ret3
    exact⟨_,My.q1,by first|exact Kd.R_nil _ _ _ _ _|exact Kd.N_nil _ _ _ _ _|exact Kd.V_nil _ _ _ _ _|exact Kd.Q_nil _ _ _ _ _|exact Kd.S_nil _ _ _ _ _,My.bA⟩
   ·replace c8:=Bool.eq_false_iff.mpr c8
    subst c8;rw [if_neg (show¬(false=true) by decide)] at H;have HC9:=Aside0.mk H;clear H
    go_upto_region 3 with (fail)
    repeat(go_quiet (fail);go_upto_region 3 with (fail))
    go_cut [30] (fun v30 wc=> ∃(kq:Nat) (x30_8:Bool),v30= .bool x30_8∧Aside0 (batonref07_Since.j1 kq a1 a2 a3 x30_8 a0_0 a0_1 l0_2 l0_3=some (r1,r2,r3))∧Aside0 (kq≤kj4)∧Aside0 (wc.heap[gb690]? =some (.cells #[.int .i64 a0_0,.int .i64 a0_1,(.slice A0_2 l0_2.length c0_2),(.slice A0_3 l0_3.length c0_3)] 42 (0,0)))∧Aside0 (Below w.heap.size w wc))
    case first=>
     have H:=HC9.out;clear HC9
     by_cases c10:a2 < 1
     ·rw [if_pos c10] at H
      have c10b0:=decide_eq_true c10;clear c10;(first|rw [c10b0]|(simp only [i64_w,i32_w];rw [c10b0])|skip);have H':=Aside0.mk H;clear H
      go_wp2
      repeat(go_quiet (fail);try go_wp2)
      go_meet
      case rel=> exact⟨_,(true),My.q0,H',⟨by have:=HJ4.out;first|omega|exact Nat.le_refl _⟩,⟨My.Ka BK690.out⟩,⟨My.bA⟩⟩
     ·rw [if_neg c10] at H
      have c10b0:=decide_eq_false c10;clear c10;(first|rw [c10b0]|(simp only [i64_w,i32_w];rw [c10b0])|skip);have H':=Aside0.mk H;clear H;obtain⟨hcz11_0,hcz11_1,hcz11_2,hcz11_3⟩:=My.qc4 BK690.out;obtain⟨hfz11_0,hfz11_1,hfz11_2,hfz11_3⟩:=My.qf4 BK690.out
      go_wp2
      repeat(go_quiet (fail);try go_wp2)
      go_meet
      case rel=> exact⟨_,(decide (a2 > (wrap64 (a0_0 + 1)))),My.q0,H',⟨by have:=HJ4.out;first|omega|exact Nat.le_refl _⟩,⟨My.Ka BK690.out⟩,⟨My.bA⟩⟩
    case rest=>
     clear HC9;(repeat first|clear c1|clear p2|clear c4|clear p6|clear c7|clear c7b0|clear c8|clear c10|clear c10b0|clear hcz11_0|clear hcz11_1|clear hcz11_2|clear hcz11_3|clear hfz11_0|clear hfz11_1|clear hfz11_2|clear hfz11_3|clear p2);obtain⟨kq,x30_8,rfl,HA,HJ8,BK690,HB⟩:=hcut
     cases kq with
     |zero=> exact absurd HA.out (by simp [batonref07_Since.j1])
     |succ kj8=>
      have H:=HA.out;clear HA;simp only [batonref07_Since.j1] at H
      by_cases c12:x30_8=true
      ·subst c12
       rw [if_pos rfl] at H;simp only [Option.some.injEq,Prod.mk.injEq] at H;obtain⟨rfl,rfl,rfl⟩:=H
       go_wp2
       repeat(go_quiet (fail);try go_wp2)
       go_ret3
       exact⟨_,My.q1,by first|exact Kd.R_nil _ _ _ _ _|exact Kd.N_nil _ _ _ _ _|exact Kd.V_nil _ _ _ _ _|exact Kd.Q_nil _ _ _ _ _|exact Kd.S_nil _ _ _ _ _,My.bA⟩
      ·replace c12:=Bool.eq_false_iff.mpr c12
       subst c12;rw [if_neg (show¬(false=true) by decide)] at H
       by_cases c13:a2≤a0_1
       ·rw [if_pos c13] at H
        have c13b0:=decide_eq_true c13;clear c13;simp only [Option.some.injEq,Prod.mk.injEq] at H;obtain⟨rfl,rfl,rfl⟩:=H;obtain⟨hcz14_0,hcz14_1,hcz14_2,hcz14_3⟩:=My.qc4 BK690.out;obtain⟨hfz14_0,hfz14_1,hfz14_2,hfz14_3⟩:=My.qf4 BK690.out
        go_wp2
        repeat(go_quiet (fail);try go_wp2)
        go_ret3
        exact⟨_,My.q1,by first|exact Kd.R_nil _ _ _ _ _|exact Kd.N_nil _ _ _ _ _|exact Kd.V_nil _ _ _ _ _|exact Kd.Q_nil _ _ _ _ _|exact Kd.S_nil _ _ _ _ _,My.bA⟩
       ·rw [if_neg c13] at H
        have c13b0:=decide_eq_false c13;clear c13;have H':=Aside0.mk H;clear H;obtain⟨hcz15_0,hcz15_1,hcz15_2,hcz15_3⟩:=My.qc4 BK690.out;obtain⟨hfz15_0,hfz15_1,hfz15_2,hfz15_3⟩:=My.qf4 BK690.out
        go_wp2
        repeat(go_quiet (fail);try go_wp2)
        go_loopg [11,12] kj8 (fun kq v11 v12 w'=> ∃(x11_3:List (S54)) (x12_3:Int),v12= .int .i64 x12_3∧Aside0 (batonref07_Since.l0 kq a1 a2 a3 x11_3 x12_3 a0_0 a0_1 l0_2 l0_3=some (r1,r2,r3))∧Aside0 (kq≤kj8)∧Aside0 (Kd.R k54 54 w' w.heap.size (fun _=> True) v11 x11_3)∧Aside0 (w'.heap[gb690]? =some (.cells #[.int .i64 a0_0,.int .i64 a0_1,(.slice A0_2 l0_2.length c0_2),(.slice A0_3 l0_3.length c0_3)] 42 (0,0)))∧Aside0 (Below w.heap.size w w'))
        case atStart=> exact⟨(([]:List (S54))),(0),My.q0,H',⟨Nat.le_refl _⟩,⟨by first|exact Kd.R_nil _ _ _ _ _|exact Kd.N_nil _ _ _ _ _|exact Kd.V_nil _ _ _ _ _|exact Kd.Q_nil _ _ _ _ _|exact Kd.S_nil _ _ _ _ _⟩,⟨My.Ka BK690.out⟩,⟨My.bA⟩⟩
        case round=>
         clear H';(repeat first|clear c1|clear p2|clear c4|clear p6|clear c7|clear c7b0|clear c8|clear c10|clear c10b0|clear c12|clear c13|clear c13b0|clear hcz11_0|clear hcz11_1|clear hcz11_2|clear hcz11_3|clear hcz14_0|clear hcz14_1|clear hcz14_2|clear hcz14_3|clear hcz15_0|clear hcz15_1|clear hcz15_2|clear hcz15_3|clear hfz11_0|clear hfz11_1|clear hfz11_2|clear hfz11_3|clear hfz14_0|clear hfz14_1|clear hfz14_2|clear hfz14_3|clear hfz15_0|clear hfz15_1|clear hfz15_2|clear hfz15_3|clear p2|clear p6);obtain⟨x11_3,x12_3,rfl,HA,HK3,HO_11,BK690,HB⟩:=hrel
         cases gk with
         |zero=> exact absurd HA.out (by simp [batonref07_Since.l0])
         |succ k3=>
          have H:=HA.out;clear HA;simp only [batonref07_Since.l0] at H
          by_cases c16:x12_3 < (l0_3.length:Int)
          ·rw [if_pos c16] at H
           have c16b0:=decide_eq_true c16;clear c16
           by_cases c17:0≤x12_3
           ·rw [if_pos c17] at H
            have c17b0:=decide_eq_true c17;clear c17
            by_cases c18:((rd_T54 l0_3 x12_3).f0)≥a2
            ·rw [if_pos c18] at H
             have c18b0:=decide_eq_true c18;clear c18;replace H:=Option.bind_eq_some_iff.mp H;obtain⟨t693,A190,H⟩:=H;have A19:=Aside0.mk A190;clear A190
             by_cases c20:t693=true
             ·subst c20
              rw [if_pos rfl] at H
              by_cases c21:x11_3.length < 1759218604441
              ·rw [if_pos c21] at H
               have LMc21:=Aside0.mk c21;clear c21;obtain⟨y695,hy_⟩:∃y_:List (S54),y_=(x11_3 ++ [(⟨(rd_T54 l0_3 x12_3).f0,(rd_T54 l0_3 x12_3).f1,(⟨(rd_T54 l0_3 x12_3).f2.f0,(rd_T54 l0_3 x12_3).f2.f1,(rd_T54 l0_3 x12_3).f2.f2,(rd_T54 l0_3 x12_3).f2.f3,(rd_T54 l0_3 x12_3).f2.f4,(rd_T54 l0_3 x12_3).f2.f5⟩:S26)⟩:S54)]):=⟨_,rfl⟩;replace H:(batonref07_Since.l0 k3 a1 a2 a3 y695 (wrap64 (x12_3 + 1)) a0_0 a0_1 l0_2 l0_3)=some (r1,r2,r3):=My.hr;have Ny695:=Aside0.mk hy_;clear hy_;have H':=Aside0.mk H;clear H;obtain⟨hcz22_0,hcz22_1,hcz22_2,hcz22_3⟩:=My.qc4 BK690.out;obtain⟨hfz22_0,hfz22_1,hfz22_2,hfz22_3⟩:=My.qf4 BK690.out;have p691:0≤(x12_3:Int):=of_decide_eq_true My.as;have q691:x12_3 < (l0_3.length:Int):=of_decide_eq_true My.as;obtain⟨ad691,e691,hx691_0,hx691_1,hx691_2,hx691_3,hx691_4,hx691_5,hx691_6,hx691_7⟩:=at_T54 HR0_3.out x12_3 p691 q691;cases e691;replace hx691_0:=My.up HB.out hx691_0;replace hx691_1:=My.up HB.out hx691_1;replace hx691_2:=My.up HB.out hx691_2;replace hx691_3:=My.up HB.out hx691_3;replace hx691_4:=My.up HB.out hx691_4;replace hx691_5:=My.up HB.out hx691_5;replace hx691_6:=My.up HB.out hx691_6;replace hx691_7:=My.up HB.out hx691_7;replace p691:=eq_true p691;replace q691:=eq_true q691;have p692:0≤(x12_3:Int):=of_decide_eq_true My.as;have q692:x12_3 < (l0_3.length:Int):=of_decide_eq_true My.as;obtain⟨ad692,e692,hx692_0,hx692_1,hx692_2,hx692_3,hx692_4,hx692_5,hx692_6,hx692_7⟩:=at_T54 HR0_3.out x12_3 p692 q692;obtain rfl:ad691=ad692:=(by injection e692);replace hx692_0:=My.up HB.out hx692_0;replace hx692_1:=My.up HB.out hx692_1;replace hx692_2:=My.up HB.out hx692_2;replace hx692_3:=My.up HB.out hx692_3;replace hx692_4:=My.up HB.out hx692_4;replace hx692_5:=My.up HB.out hx692_5;replace hx692_6:=My.up HB.out hx692_6;replace hx692_7:=My.up HB.out hx692_7;replace p692:=eq_true p692;replace q692:=eq_true q692
               go_wp2_with (first|(go_at_call 56;(with_reducible refine(batonref07_begins.calls ((rd_T54 l0_3 x12_3).f2.f0) a1 true _ A19.out).mono ?_);rintro e w' ⟨rfl,⟨nd,rfl⟩⟩;(try first|exact⟨rfl,_,World.drewN_drewN _ _ _⟩|exact⟨rfl,_,Eq.trans (World.drewN_drewN _ _ _) (congrArg (World.drewN _) (Nat.add_assoc _ _ _))⟩);have p694:0≤(x12_3:Int):=of_decide_eq_true My.as;have q694:x12_3 < (l0_3.length:Int):=of_decide_eq_true My.as;obtain⟨ad694,e694,hx694_0,hx694_1,hx694_2,hx694_3,hx694_4,hx694_5,hx694_6,hx694_7⟩:=at_T54 HR0_3.out x12_3 p694 q694;obtain rfl:ad691=ad694:=(by injection e694);replace hx694_0:=My.up HB.out hx694_0;replace hx694_1:=My.up HB.out hx694_1;replace hx694_2:=My.up HB.out hx694_2;replace hx694_3:=My.up HB.out hx694_3;replace hx694_4:=My.up HB.out hx694_4;replace hx694_5:=My.up HB.out hx694_5;replace hx694_6:=My.up HB.out hx694_6;replace hx694_7:=My.up HB.out hx694_7;replace p694:=eq_true p694;replace q694:=eq_true q694)|((with_reducible refine gate_builtin (b:= .append) (xs:= #[.tmp 61,.tmp 67]) rfl ?_);at_builtin;refine Kd.R_append k54 (w0:=w) w.heap.size rfl (.tmp 61) (.tmp 67) 35 54 (.agg #[(.int .i64 0),(.bool false),(.string ⟨#[]⟩),(.string ⟨#[]⟩),(.int .i64 0),(.int .i64 0),(.int .i64 0),(.int .i64 0)]) 80 rfl Try.underlying35 info54 rfl (by decide) (by omega) u11 x11_3 (⟨(rd_T54 l0_3 x12_3).f0,(rd_T54 l0_3 x12_3).f1,(⟨(rd_T54 l0_3 x12_3).f2.f0,(rd_T54 l0_3 x12_3).f2.f1,(rd_T54 l0_3 x12_3).f2.f2,(rd_T54 l0_3 x12_3).f2.f3,(rd_T54 l0_3 x12_3).f2.f4,(rd_T54 l0_3 x12_3).f2.f5⟩:S26)⟩:S54) [.int .i64 ((rd_T54 l0_3 x12_3).f0),.bool ((rd_T54 l0_3 x12_3).f1),.string ((rd_T54 l0_3 x12_3).f2.f0),.string ((rd_T54 l0_3 x12_3).f2.f1),.int .i64 ((rd_T54 l0_3 x12_3).f2.f2),.int .i64 ((rd_T54 l0_3 x12_3).f2.f3),.int .i64 ((rd_T54 l0_3 x12_3).f2.f4),.int .i64 ((rd_T54 l0_3 x12_3).f2.f5)] (fun _=> True) (fun _=> False) rfl rfl ?aP (fun _ hk=> hk.elim) ?aF ?aO ?aB ?aS ?aL ?_;(case aP=> exact k54_mkM _ _ _ (⟨(rd_T54 l0_3 x12_3).f0,(rd_T54 l0_3 x12_3).f1,(⟨(rd_T54 l0_3 x12_3).f2.f0,(rd_T54 l0_3 x12_3).f2.f1,(rd_T54 l0_3 x12_3).f2.f2,(rd_T54 l0_3 x12_3).f2.f3,(rd_T54 l0_3 x12_3).f2.f4,(rd_T54 l0_3 x12_3).f2.f5⟩:S26)⟩:S54));(case aB=> exact My.bA);(case aF=> exact(fun _ _=> trivial));(case aO=> exact(My.Ra HO_11.out));(case aS=> exact(below_size My.bA));(case aL=> have:=LMc21.out;omega);intro v696 w23 ho hb hg hat;rw [←Ny695.out] at ho;replace BK690:=My.m (My.kg BK690.out hg (Kd.R_ne HO_11.out BK690.out (by decide)));replace HB:=My.m hb;have HO697:=My.m ho;clear HO_11;clear ho hb hg hat))
               repeat(go_quiet (fail);try go_wp2)
               go_roundg k3
               case measure=> have:=HJ4.out;have:=HJ8.out;have:=HK3.out;omega
               case rel=> exact⟨(y695),(wrap64 (x12_3 + 1)),My.q0,H',⟨by have:=HJ4.out;have:=HJ8.out;have:=HK3.out;omega⟩,⟨My.Ra HO697.out⟩,⟨My.Ka BK690.out⟩,⟨My.bA⟩⟩
              ·exact My.no c21 H
             ·replace c20:=Bool.eq_false_iff.mpr c20
              subst c20;rw [if_neg (show¬(false=true) by decide)] at H;have H':=Aside0.mk H;clear H;obtain⟨hcz24_0,hcz24_1,hcz24_2,hcz24_3⟩:=My.qc4 BK690.out;obtain⟨hfz24_0,hfz24_1,hfz24_2,hfz24_3⟩:=My.qf4 BK690.out;have p691:0≤(x12_3:Int):=of_decide_eq_true My.as;have q691:x12_3 < (l0_3.length:Int):=of_decide_eq_true My.as;obtain⟨ad691,e691,hx691_0,hx691_1,hx691_2,hx691_3,hx691_4,hx691_5,hx691_6,hx691_7⟩:=at_T54 HR0_3.out x12_3 p691 q691;cases e691;replace hx691_0:=My.up HB.out hx691_0;replace hx691_1:=My.up HB.out hx691_1;replace hx691_2:=My.up HB.out hx691_2;replace hx691_3:=My.up HB.out hx691_3;replace hx691_4:=My.up HB.out hx691_4;replace hx691_5:=My.up HB.out hx691_5;replace hx691_6:=My.up HB.out hx691_6;replace hx691_7:=My.up HB.out hx691_7;replace p691:=eq_true p691;replace q691:=eq_true q691;have p692:0≤(x12_3:Int):=of_decide_eq_true My.as;have q692:x12_3 < (l0_3.length:Int):=of_decide_eq_true My.as;obtain⟨ad692,e692,hx692_0,hx692_1,hx692_2,hx692_3,hx692_4,hx692_5,hx692_6,hx692_7⟩:=at_T54 HR0_3.out x12_3 p692 q692;obtain rfl:ad691=ad692:=(by injection e692);replace hx692_0:=My.up HB.out hx692_0;replace hx692_1:=My.up HB.out hx692_1;replace hx692_2:=My.up HB.out hx692_2;replace hx692_3:=My.up HB.out hx692_3;replace hx692_4:=My.up HB.out hx692_4;replace hx692_5:=My.up HB.out hx692_5;replace hx692_6:=My.up HB.out hx692_6;replace hx692_7:=My.up HB.out hx692_7;replace p692:=eq_true p692;replace q692:=eq_true q692
              go_wp2_with (first|(go_at_call 56;(with_reducible refine(batonref07_begins.calls ((rd_T54 l0_3 x12_3).f2.f0) a1 false _ A19.out).mono ?_);rintro e w' ⟨rfl,⟨nd,rfl⟩⟩;(try first|exact⟨rfl,_,World.drewN_drewN _ _ _⟩|exact⟨rfl,_,Eq.trans (World.drewN_drewN _ _ _) (congrArg (World.drewN _) (Nat.add_assoc _ _ _))⟩)))
              repeat(go_quiet (fail);try go_wp2)
              go_roundg k3
              case measure=> have:=HJ4.out;have:=HJ8.out;have:=HK3.out;omega
              case rel=> exact⟨(x11_3),(wrap64 (x12_3 + 1)),My.q0,H',⟨by have:=HJ4.out;have:=HJ8.out;have:=HK3.out;omega⟩,⟨My.Ra HO_11.out⟩,⟨My.Ka BK690.out⟩,⟨My.bA⟩⟩
            ·rw [if_neg c18] at H
             have c18b0:=decide_eq_false c18;clear c18;have H':=Aside0.mk H;clear H;obtain⟨hcz25_0,hcz25_1,hcz25_2,hcz25_3⟩:=My.qc4 BK690.out;obtain⟨hfz25_0,hfz25_1,hfz25_2,hfz25_3⟩:=My.qf4 BK690.out;have p691:0≤(x12_3:Int):=of_decide_eq_true My.as;have q691:x12_3 < (l0_3.length:Int):=of_decide_eq_true My.as;obtain⟨ad691,e691,hx691_0,hx691_1,hx691_2,hx691_3,hx691_4,hx691_5,hx691_6,hx691_7⟩:=at_T54 HR0_3.out x12_3 p691 q691;cases e691;replace hx691_0:=My.up HB.out hx691_0;replace hx691_1:=My.up HB.out hx691_1;replace hx691_2:=My.up HB.out hx691_2;replace hx691_3:=My.up HB.out hx691_3;replace hx691_4:=My.up HB.out hx691_4;replace hx691_5:=My.up HB.out hx691_5;replace hx691_6:=My.up HB.out hx691_6;replace hx691_7:=My.up HB.out hx691_7;replace p691:=eq_true p691;replace q691:=eq_true q691
             go_wp2
             repeat(go_quiet (fail);try go_wp2)
             go_roundg k3
             case measure=> have:=HJ4.out;have:=HJ8.out;have:=HK3.out;omega
             case rel=> exact⟨(x11_3),(wrap64 (x12_3 + 1)),My.q0,H',⟨by have:=HJ4.out;have:=HJ8.out;have:=HK3.out;omega⟩,⟨My.Ra HO_11.out⟩,⟨My.Ka BK690.out⟩,⟨My.bA⟩⟩
           ·exact My.no c17 H
          ·rw [if_neg c16] at H
           have c16b0:=decide_eq_false c16;clear c16
           by_cases c26:(x11_3.length:Int)≤a3
           ·rw [if_pos c26] at H
            have c26b0:=decide_eq_true c26;clear c26;simp only [Option.some.injEq,Prod.mk.injEq] at H;obtain⟨rfl,rfl,rfl⟩:=H;obtain⟨hcz27_0,hcz27_1,hcz27_2,hcz27_3⟩:=My.qc4 BK690.out;obtain⟨hfz27_0,hfz27_1,hfz27_2,hfz27_3⟩:=My.qf4 BK690.out;obtain⟨Ao28,co28,eo28⟩:=Kd.R_slice HO_11.out;subst eo28
            go_wp2
            repeat(go_quiet (fail);try go_wp2)
            go_ret3
            exact⟨_,My.q1,My.Ra HO_11.out,My.bA⟩
           ·rw [if_neg c26] at H
            have c26b0:=decide_eq_false c26;clear c26
            by_cases c29:0≤a3
            ·rw [if_pos c29] at H
             have c29b0:=decide_eq_true c29;clear c29
             by_cases c30:a3 < (x11_3.length:Int)
             ·rw [if_pos c30] at H
              have c30b0:=decide_eq_true c30;clear c30
              by_cases c31:0 < (x11_3.length:Int)
              ·rw [if_pos c31] at H
               have c31b0:=decide_eq_true c31;have c31b1:decide (0 < x11_3.length)=true:=decide_eq_true (by omega);clear c31
               by_cases c32:((rd_T54 x11_3 a3).f0)=((rd_T54 x11_3 0).f0)
               ·rw [if_pos c32] at H
                have c32b0:(((rd_T54 x11_3 a3).f0) == ((rd_T54 x11_3 0).f0))=true:=beq_iff_eq.mpr c32;have c32b1:(((rd_T54 x11_3 a3).f0) != ((rd_T54 x11_3 0).f0))=false:=bne_eq_false_iff_eq.mpr c32;clear c32;simp only [Option.some.injEq,Prod.mk.injEq] at H;obtain⟨rfl,rfl,rfl⟩:=H;obtain⟨hcz33_0,hcz33_1,hcz33_2,hcz33_3⟩:=My.qc4 BK690.out;obtain⟨hfz33_0,hfz33_1,hfz33_2,hfz33_3⟩:=My.qf4 BK690.out;obtain⟨Ao34,co34,eo34⟩:=Kd.R_slice HO_11.out;subst eo34;have p698:0≤(a3:Int):=of_decide_eq_true My.as;have q698:a3 < (x11_3.length:Int):=of_decide_eq_true My.as;obtain⟨ad698,e698,hx698_0,hx698_1,hx698_2,hx698_3,hx698_4,hx698_5,hx698_6,hx698_7⟩:=at_T54 (Kd.R_reads' HO_11.out).2.2 a3 p698 q698;cases e698;replace p698:=eq_true p698;replace q698:=eq_true q698;have p699:0≤(0:Int):=(by omega);have q699:0 < (x11_3.length:Int):=of_decide_eq_true My.as;obtain⟨ad699,e699,hx699_0,hx699_1,hx699_2,hx699_3,hx699_4,hx699_5,hx699_6,hx699_7⟩:=at_T54 (Kd.R_reads' HO_11.out).2.2 0 p699 q699;obtain rfl:ad698=ad699:=(by injection e699);have qi699:(0 < x11_3.length)=True:=eq_true (by omega);(try simp only [show((0:Int)).toNat=0 from rfl,show 0 * 8=0 from rfl,Addr.add_zero'] at hx699_0 hx699_1 hx699_2 hx699_3 hx699_4 hx699_5 hx699_6 hx699_7);replace p699:=eq_true p699;replace q699:=eq_true q699
                go_wp2
                repeat(go_quiet (fail);try go_wp2)
                go_ret3
                exact⟨_,My.q1,by first|exact Kd.R_nil _ _ _ _ _|exact Kd.N_nil _ _ _ _ _|exact Kd.V_nil _ _ _ _ _|exact Kd.Q_nil _ _ _ _ _|exact Kd.S_nil _ _ _ _ _,My.bA⟩
               ·rw [if_neg c32] at H
                have c32b0:(((rd_T54 x11_3 a3).f0) == ((rd_T54 x11_3 0).f0))=false:=beq_eq_false_iff_ne.mpr c32;have c32b1:(((rd_T54 x11_3 a3).f0) != ((rd_T54 x11_3 0).f0))=true:=bne_iff_ne.mpr c32;have H':=Aside0.mk H;clear H;obtain⟨hcz35_0,hcz35_1,hcz35_2,hcz35_3⟩:=My.qc4 BK690.out;obtain⟨hfz35_0,hfz35_1,hfz35_2,hfz35_3⟩:=My.qf4 BK690.out;obtain⟨Ao36,co36,eo36⟩:=Kd.R_slice HO_11.out;subst eo36;have p698:0≤(a3:Int):=of_decide_eq_true My.as;have q698:a3 < (x11_3.length:Int):=of_decide_eq_true My.as;obtain⟨ad698,e698,hx698_0,hx698_1,hx698_2,hx698_3,hx698_4,hx698_5,hx698_6,hx698_7⟩:=at_T54 (Kd.R_reads' HO_11.out).2.2 a3 p698 q698;cases e698;replace p698:=eq_true p698;replace q698:=eq_true q698;have p699:0≤(0:Int):=(by omega);have q699:0 < (x11_3.length:Int):=of_decide_eq_true My.as;obtain⟨ad699,e699,hx699_0,hx699_1,hx699_2,hx699_3,hx699_4,hx699_5,hx699_6,hx699_7⟩:=at_T54 (Kd.R_reads' HO_11.out).2.2 0 p699 q699;obtain rfl:ad698=ad699:=(by injection e699);have qi699:(0 < x11_3.length)=True:=eq_true (by omega);(try simp only [show((0:Int)).toNat=0 from rfl,show 0 * 8=0 from rfl,Addr.add_zero'] at hx699_0 hx699_1 hx699_2 hx699_3 hx699_4 hx699_5 hx699_6 hx699_7);replace p699:=eq_true p699;replace q699:=eq_true q699
                go_wp2
                repeat(go_quiet (fail);try go_wp2)
                go_loopg [14,15] k3 (fun kq v14 v15 w'=> ∃(x14_4:List (S54)) (x15_4:Int),v15= .int .i64 x15_4∧Aside0 (batonref07_Since.l1 kq x11_3 ((rd_T54 x11_3 a3).f0) x14_4 x15_4=some (r1,r2,r3))∧Aside0 (kq≤k3)∧Aside0 (Kd.R k54 54 w' w.heap.size (fun k_=> some k_≠(v14:Value).ownBlock) (.slice (some ad698) x11_3.length co36) x11_3)∧Aside0 (Kd.R k54 54 w' w.heap.size (fun k_=> some k_≠((.slice (some ad698) x11_3.length co36):Value).ownBlock) v14 x14_4)∧Aside0 (w'.heap[gb690]? =some (.cells #[.int .i64 a0_0,.int .i64 a0_1,(.slice A0_2 l0_2.length c0_2),(.slice A0_3 l0_3.length c0_3)] 42 (0,0)))∧Aside0 (Below w.heap.size w w'))
                case atStart=> exact⟨(([]:List (S54))),(0),My.q0,H',⟨Nat.le_refl _⟩,⟨by(with_reducible repeat(first|apply Kd.R_alloc|apply Kd.R_drewN|apply Kd.R_drew));exact Kd.R_mono HO_11.out (fun _ hk=> (by simp [Value.ownBlock]))⟩,⟨by first|exact Kd.R_nil _ _ _ _ _|exact Kd.N_nil _ _ _ _ _|exact Kd.V_nil _ _ _ _ _|exact Kd.Q_nil _ _ _ _ _|exact Kd.S_nil _ _ _ _ _⟩,⟨My.Ka BK690.out⟩,⟨My.bA⟩⟩
                case round=>
                 clear H';(repeat first|clear c1|clear c2|clear p2|clear c3|clear c4|clear p6|clear q6|clear hx6|clear qi6|clear c7|clear c7b0|clear c8|clear c10|clear c10b0|clear c12|clear c13|clear c13b0|clear c16|clear c16b0|clear c17|clear c17b0|clear c18|clear c18b0|clear c20|clear c21|clear c26|clear c26b0|clear c29|clear c29b0|clear c30|clear c30b0|clear c31|clear c31b0|clear c31b1|clear c32|clear c32b0|clear c32b1|clear hcz11_0|clear hcz11_1|clear hcz11_2|clear hcz11_3|clear hcz14_0|clear hcz14_1|clear hcz14_2|clear hcz14_3|clear hcz15_0|clear hcz15_1|clear hcz15_2|clear hcz15_3|clear hcz22_0|clear hcz22_1|clear hcz22_2|clear hcz22_3|clear hcz24_0|clear hcz24_1|clear hcz24_2|clear hcz24_3|clear hcz25_0|clear hcz25_1|clear hcz25_2|clear hcz25_3|clear hcz27_0|clear hcz27_1|clear hcz27_2|clear hcz27_3|clear hcz33_0|clear hcz33_1|clear hcz33_2|clear hcz33_3|clear hcz35_0|clear hcz35_1|clear hcz35_2|clear hcz35_3|clear hfz11_0|clear hfz11_1|clear hfz11_2|clear hfz11_3|clear hfz14_0|clear hfz14_1|clear hfz14_2|clear hfz14_3|clear hfz15_0|clear hfz15_1|clear hfz15_2|clear hfz15_3|clear hfz22_0|clear hfz22_1|clear hfz22_2|clear hfz22_3|clear hfz24_0|clear hfz24_1|clear hfz24_2|clear hfz24_3|clear hfz25_0|clear hfz25_1|clear hfz25_2|clear hfz25_3|clear hfz27_0|clear hfz27_1|clear hfz27_2|clear hfz27_3|clear hfz33_0|clear hfz33_1|clear hfz33_2|clear hfz33_3|clear hfz35_0|clear hfz35_1|clear hfz35_2|clear hfz35_3|clear hx691_0|clear hx691_1|clear hx691_2|clear hx691_3|clear hx691_4|clear hx691_5|clear hx691_6|clear hx691_7|clear hx692_0|clear hx692_1|clear hx692_2|clear hx692_3|clear hx692_4|clear hx692_5|clear hx692_6|clear hx692_7|clear hx694_0|clear hx694_1|clear hx694_2|clear hx694_3|clear hx694_4|clear hx694_5|clear hx694_6|clear hx694_7|clear hx698_0|clear hx698_1|clear hx698_2|clear hx698_3|clear hx698_4|clear hx698_5|clear hx698_6|clear hx698_7|clear hx699_0|clear hx699_1|clear hx699_2|clear hx699_3|clear hx699_4|clear hx699_5|clear hx699_6|clear hx699_7|clear p2|clear p6|clear p691|clear p692|clear p694|clear p698|clear p699|clear q691|clear q692|clear q694|clear q698|clear q699);obtain⟨x14_4,x15_4,rfl,HA,HK4,HO_11,HO_14,BK690,HB⟩:=hrel
                 cases gk with
                 |zero=> exact absurd HA.out (by simp [batonref07_Since.l1])
                 |succ k4=>
                  have H:=HA.out;clear HA;simp only [batonref07_Since.l1] at H
                  by_cases c37:x15_4 < (x11_3.length:Int)
                  ·rw [if_pos c37] at H
                   have c37b0:=decide_eq_true c37;clear c37
                   by_cases c38:0≤x15_4
                   ·rw [if_pos c38] at H
                    have c38b0:=decide_eq_true c38;clear c38
                    by_cases c39:((rd_T54 x11_3 x15_4).f0) < ((rd_T54 x11_3 a3).f0)
                    ·rw [if_pos c39] at H
                     have c39b0:=decide_eq_true c39;clear c39
                     by_cases c40:x14_4.length < 1759218604441
                     ·rw [if_pos c40] at H
                      have LMc40:=Aside0.mk c40;clear c40;obtain⟨y702,hy_⟩:∃y_:List (S54),y_=(x14_4 ++ [(⟨(rd_T54 x11_3 x15_4).f0,(rd_T54 x11_3 x15_4).f1,(⟨(rd_T54 x11_3 x15_4).f2.f0,(rd_T54 x11_3 x15_4).f2.f1,(rd_T54 x11_3 x15_4).f2.f2,(rd_T54 x11_3 x15_4).f2.f3,(rd_T54 x11_3 x15_4).f2.f4,(rd_T54 x11_3 x15_4).f2.f5⟩:S26)⟩:S54)]):=⟨_,rfl⟩;replace H:(batonref07_Since.l1 k4 x11_3 ((rd_T54 x11_3 a3).f0) y702 (wrap64 (x15_4 + 1)))=some (r1,r2,r3):=My.hr;have Ny702:=Aside0.mk hy_;clear hy_;have H':=Aside0.mk H;clear H;have p700:0≤(x15_4:Int):=of_decide_eq_true My.as;have q700:x15_4 < (x11_3.length:Int):=of_decide_eq_true My.as;obtain⟨ad700,e700,hx700_0,hx700_1,hx700_2,hx700_3,hx700_4,hx700_5,hx700_6,hx700_7⟩:=at_T54 (Kd.R_reads' HO_11.out).2.2 x15_4 p700 q700;obtain rfl:ad698=ad700:=(by injection e700);replace p700:=eq_true p700;replace q700:=eq_true q700;have p701:0≤(x15_4:Int):=of_decide_eq_true My.as;have q701:x15_4 < (x11_3.length:Int):=of_decide_eq_true My.as;obtain⟨ad701,e701,hx701_0,hx701_1,hx701_2,hx701_3,hx701_4,hx701_5,hx701_6,hx701_7⟩:=at_T54 (Kd.R_reads' HO_11.out).2.2 x15_4 p701 q701;obtain rfl:ad698=ad701:=(by injection e701);replace p701:=eq_true p701;replace q701:=eq_true q701
                      go_wp2_with (first|((with_reducible refine gate_builtin (b:= .append) (xs:= #[.tmp 103,.tmp 108]) rfl ?_);at_builtin;refine Kd.R_append k54 (w0:=w) w.heap.size rfl (.tmp 103) (.tmp 108) 35 54 (.agg #[(.int .i64 0),(.bool false),(.string ⟨#[]⟩),(.string ⟨#[]⟩),(.int .i64 0),(.int .i64 0),(.int .i64 0),(.int .i64 0)]) 80 rfl Try.underlying35 info54 rfl (by decide) (by omega) u14 x14_4 (⟨(rd_T54 x11_3 x15_4).f0,(rd_T54 x11_3 x15_4).f1,(⟨(rd_T54 x11_3 x15_4).f2.f0,(rd_T54 x11_3 x15_4).f2.f1,(rd_T54 x11_3 x15_4).f2.f2,(rd_T54 x11_3 x15_4).f2.f3,(rd_T54 x11_3 x15_4).f2.f4,(rd_T54 x11_3 x15_4).f2.f5⟩:S26)⟩:S54) [.int .i64 ((rd_T54 x11_3 x15_4).f0),.bool ((rd_T54 x11_3 x15_4).f1),.string ((rd_T54 x11_3 x15_4).f2.f0),.string ((rd_T54 x11_3 x15_4).f2.f1),.int .i64 ((rd_T54 x11_3 x15_4).f2.f2),.int .i64 ((rd_T54 x11_3 x15_4).f2.f3),.int .i64 ((rd_T54 x11_3 x15_4).f2.f4),.int .i64 ((rd_T54 x11_3 x15_4).f2.f5)] (fun k_=> some k_≠(.slice (some ad698) x11_3.length co36:Value).ownBlock) (fun _=> False) rfl rfl ?aP (fun _ hk=> hk.elim) ?aF ?aO ?aB ?aS ?aL ?_;(case aP=> exact k54_mkM _ _ _ (⟨(rd_T54 x11_3 x15_4).f0,(rd_T54 x11_3 x15_4).f1,(⟨(rd_T54 x11_3 x15_4).f2.f0,(rd_T54 x11_3 x15_4).f2.f1,(rd_T54 x11_3 x15_4).f2.f2,(rd_T54 x11_3 x15_4).f2.f3,(rd_T54 x11_3 x15_4).f2.f4,(rd_T54 x11_3 x15_4).f2.f5⟩:S26)⟩:S54));(case aB=> exact My.bA);(case aF=> exact(fun k_ hk=> Kd.fresh' (Kd.R_lt (My.Ra HO_11.out)) k_ hk));(case aO=> exact(My.Ra HO_14.out));(case aS=> exact(below_size My.bA));(case aL=> have:=LMc40.out;omega);intro v703 w41 ho hb hg hat;rw [←Ny702.out] at ho;have n0_:=My.m (Kd.R_after (ok:=(fun _=> True)) (by(with_reducible repeat(first|apply Kd.R_alloc|apply Kd.R_drewN|apply Kd.R_drew));exact Kd.R_mono HO_11.out (fun _ hk=> ⟨trivial,hk⟩)) hg hat);have n1_:=My.m (My.kg BK690.out hg (Kd.R_ne HO_14.out BK690.out (by decide)));have n2_:=My.m hb;have n3_:=My.m ho;clear HO_11;clear BK690;clear HB;clear HO_14;have HO_11:=n0_;have BK690:=n1_;have HB:=n2_;have HO704:=n3_;clear n0_ n1_ n2_ n3_;clear ho hb hg hat))
                      repeat(go_quiet (fail);try go_wp2)
                      go_roundg k4
                      case measure=> have:=HJ4.out;have:=HJ8.out;have:=HK3.out;have:=HK4.out;omega
                      case rel=> exact⟨(y702),(wrap64 (x15_4 + 1)),My.q0,H',⟨by have:=HJ4.out;have:=HJ8.out;have:=HK3.out;have:=HK4.out;omega⟩,⟨by(with_reducible repeat(first|apply Kd.R_alloc|apply Kd.R_drewN|apply Kd.R_drew));exact Kd.R_mono HO_11.out (fun _ hk=> hk.2)⟩,⟨My.Ra HO704.out⟩,⟨My.Ka BK690.out⟩,⟨My.bA⟩⟩
                     ·exact My.no c40 H
                    ·rw [if_neg c39] at H
                     have c39b0:=decide_eq_false c39;clear c39;simp only [Option.some.injEq,Prod.mk.injEq] at H;obtain⟨rfl,rfl,rfl⟩:=H;have p700:0≤(x15_4:Int):=of_decide_eq_true My.as;have q700:x15_4 < (x11_3.length:Int):=of_decide_eq_true My.as;obtain⟨ad700,e700,hx700_0,hx700_1,hx700_2,hx700_3,hx700_4,hx700_5,hx700_6,hx700_7⟩:=at_T54 (Kd.R_reads' HO_11.out).2.2 x15_4 p700 q700;obtain rfl:ad698=ad700:=(by injection e700);replace p700:=eq_true p700;replace q700:=eq_true q700
                     go_wp2
                     repeat(go_quiet (fail);try go_wp2)
                     go_ret3
                     exact⟨_,My.q1,by(with_reducible repeat(first|apply Kd.R_alloc|apply Kd.R_drewN|apply Kd.R_drew));exact Kd.R_mono HO_14.out (fun _ hk=> trivial),My.bA⟩
                   ·exact My.no c38 H
                  ·rw [if_neg c37] at H
                   have c37b0:=decide_eq_false c37;clear c37;simp only [Option.some.injEq,Prod.mk.injEq] at H;obtain⟨rfl,rfl,rfl⟩:=H
                   go_wp2
                   repeat(go_quiet (fail);try go_wp2)
                   go_ret3
                   exact⟨_,My.q1,by(with_reducible repeat(first|apply Kd.R_alloc|apply Kd.R_drewN|apply Kd.R_drew));exact Kd.R_mono HO_14.out (fun _ hk=> trivial),My.bA⟩
              ·exact My.no c31 H
             ·exact My.no c30 H
            ·exact My.no c29 H

/-! ### batonref07_All: function 25 -/
def batonref07_All.l0:Nat→ByteArray→Int→Int→List (S54)→Int→Int→List (S26)→List (S54)→Option ((List (S54))×Int)
  |0,_,_,_,_,_,_,_,_=> none
  |k + 1,x1,x2,x3,x10,x706000,x706001,x706002,x706003=> (batonref07_Since.f k x706000 x706001 x706002 x706003 x1 x2 x3).bind fun bt706=> (if bt706.2.2=0 then (if x10.length + bt706.1.length < 1759218604441 then ((some (x10 ++ bt706.1:List (S54))).bind fun y711=> (if bt706.2.1 > x706000 then (some (y711,0)) else (batonref07_All.l0 k x1 bt706.2.1 x3 y711 x706000 x706001 x706002 x706003))) else (none)) else (some (([]:List (S54)),bt706.2.2)))
def batonref07_All.f (k:Nat) (a0_0:Int) (a0_1:Int) (l0_2:List (S26)) (l0_3:List (S54)) (a1:ByteArray) (a2:Int) (a3:Int):Option ((List (S54))×Int):=batonref07_All.l0 k a1 a2 a3 ([]:List (S54)) a0_0 a0_1 l0_2 l0_3
theorem batonref07_All.mono_l:∀k,(∀y0 y1 y2 y3 y4 y5 y6 y7,LeO (batonref07_All.l0 k y0 y1 y2 y3 y4 y5 y6 y7) (batonref07_All.l0 (k + 1) y0 y1 y2 y3 y4 y5 y6 y7))
  |0=> fun _ _ _ _ _ _ _ _ r h=> by simp [batonref07_All.l0] at h
  |k + 1=> by
    have ih0:=batonref07_All.mono_l k
    · intro y0 y1 y2 y3 y4 y5 y6 y7
      unfold batonref07_All.l0
      have ic0:= @batonref07_Since.mono;exact My.mono_
theorem batonref07_All.mono:∀a0 a1 a2 a3 a4 a5 a6 k,LeO (batonref07_All.f k a0 a1 a2 a3 a4 a5 a6) (batonref07_All.f (k + 1) a0 a1 a2 a3 a4 a5 a6):=by
  intro a0 a1 a2 a3 a4 a5 a6 k
  have ih0:=batonref07_All.mono_l k
  unfold batonref07_All.f
  have ic0:= @batonref07_Since.mono;exact My.mono_
set_option maxHeartbeats 80000000 in
set_option maxRecDepth 100000 in
theorem batonref07_All.calls (k:Nat) (a0_0:Int) (a0_1:Int) (A0_2:Option Addr) (c0_2:Nat) (l0_2:List (S26)) (A0_3:Option Addr) (c0_3:Nat) (l0_3:List (S54)) (a1:ByteArray) (a2:Int) (a3:Int) (r1:List (S54)) (r2:Int) (w:World) (hr0_2:Kd.C k26 w A0_2 l0_2.length l0_2) (hc0_2:l0_2.length≤c0_2) (hr0_3:Kd.C k54 w A0_3 l0_3.length l0_3) (hc0_3:l0_3.length≤c0_3) (h:batonref07_All.f k a0_0 a0_1 l0_2 l0_3 a1 a2 a3=some (r1,r2)):
    Calls Try.prog 25 #[.agg #[.int .i64 a0_0,.int .i64 a0_1,.slice A0_2 l0_2.length c0_2,.slice A0_3 l0_3.length c0_3],.string a1,.int .i64 a2,.int .i64 a3] w fun e w'=> ∃v0_:Value,e= .returned (.tuple #[v0_,.int .i64 r2])∧Kd.R k54 54 w' w.heap.size (fun _=> True) v0_ r1∧Below w.heap.size w w':=by
  have hu42:=Try.underlying42;have HR0_2:=Aside0.mk hr0_2;have HC0_2:=Aside0.mk hc0_2;clear hr0_2 hc0_2;have HR0_3:=Aside0.mk hr0_3;have HC0_3:=Aside0.mk hc0_3;clear hr0_3 hc0_3;have HB:=My.m (Below.refl w.heap.size w);have H:=h;clear h;unfold batonref07_All.f at H;have H':=Aside0.mk H;clear H
  go_enter Try.func25,Try.ntmps25
  go_wp2_with (first|((with_reducible refine gate_dst (N:=4) rfl ?_);refine My.be 4 42 #[.int .i64 a0_0,.int .i64 a0_1,.slice A0_2 l0_2.length c0_2,.slice A0_3 l0_3.length c0_3] ?_;intro gb705 hg w5 hbox hb;have BK705:=My.m hbox;have GW705:=My.m ((My.nw w hg My.bB));have GE705:=My.m ((My.nw w hg My.bB));replace HB:=My.m (below_step My.bB hb);clear hb hbox hg))
  go_loopg [2,10] k (fun kq v2 v10 w'=> ∃(x2_1:Int) (x10_1:List (S54)),v2= .int .i64 x2_1∧Aside0 (batonref07_All.l0 kq a1 x2_1 a3 x10_1 a0_0 a0_1 l0_2 l0_3=some (r1,r2))∧Aside0 (kq≤k)∧Aside0 (Kd.R k54 54 w' w.heap.size (fun _=> True) v10 x10_1)∧Aside0 (w'.heap[gb705]? =some (.cells #[.int .i64 a0_0,.int .i64 a0_1,(.slice A0_2 l0_2.length c0_2),(.slice A0_3 l0_3.length c0_3)] 42 (0,0)))∧Aside0 (Below w.heap.size w w'))
  case atStart=> exact⟨(a2),(([]:List (S54))),My.q0,H',⟨Nat.le_refl _⟩,⟨by first|exact Kd.R_nil _ _ _ _ _|exact Kd.N_nil _ _ _ _ _|exact Kd.V_nil _ _ _ _ _|exact Kd.Q_nil _ _ _ _ _|exact Kd.S_nil _ _ _ _ _⟩,⟨My.Ka BK705.out⟩,⟨My.bA⟩⟩
  case round=>
    clear H';(try clear c2);(try clear p2);obtain⟨x2_1,x10_1,rfl,HA,HK1,HO_10,BK705,HB⟩:=hrel
    cases gk with
    |zero=> exact absurd HA.out (by simp [batonref07_All.l0])
    |succ k1=>
      have H:=HA.out;clear HA;simp only [batonref07_All.l0] at H;replace H:=Option.bind_eq_some_iff.mp H;obtain⟨⟨t706,t709,t710⟩,A60,H⟩:=H;dsimp only at H;have A6:=Aside0.mk A60;clear A60
      by_cases c7:t710=0
      · rw [if_pos c7] at H
        have c7b0:(t710 == 0)=true:=beq_iff_eq.mpr c7;have c7b1:(t710 != 0)=false:=bne_eq_false_iff_eq.mpr c7;clear c7
        by_cases c8:x10_1.length + t706.length < 1759218604441
        · rw [if_pos c8] at H
          have LMc8:=Aside0.mk c8;clear c8;obtain⟨y711,hy_⟩:∃y_:List (S54),y_=(x10_1 ++ t706):=⟨_,rfl⟩;replace H:(if t709 > a0_0 then (some (y711,0)) else (batonref07_All.l0 k1 a1 t709 a3 y711 a0_0 a0_1 l0_2 l0_3))=some (r1,r2):=My.hr;have Ny711:=Aside0.mk hy_;clear hy_
          by_cases c9:t709 > a0_0
          · rw [if_pos c9] at H
            have c9b0:=decide_eq_true c9;clear c9;simp only [Option.some.injEq,Prod.mk.injEq] at H;obtain⟨rfl,rfl⟩:=H;obtain⟨_,_,_,_⟩:=My.qc4 BK705.out;obtain⟨_,_,_,_⟩:=My.qf4 BK705.out
            go_wp2_with (first|((with_reducible refine gate_callee (f:=44) rfl ?_);refine goesL_ (some 19) rfl rfl Try.func44 (by kernel_rfl) rfl #[.agg #[.int .i64 a0_0,.int .i64 a0_1,.slice A0_2 l0_2.length c0_2,.slice A0_3 l0_3.length c0_3],.string a1,.int .i64 x2_1,.int .i64 a3] rfl My.ar ?_;(with_reducible refine(batonref07_Since.calls k1 a0_0 a0_1 _ _ l0_2 _ _ l0_3 a1 x2_1 a3 t706 t709 t710 _ ?side1 ?side2 ?side3 ?side4 A6.out).mono ?_);(case side1=> exact My.Ca (Kd.C_below HR0_2.out HB.out));(case side2=> exact HC0_2.out);(case side3=> exact My.Ca (Kd.C_below HR0_3.out HB.out));(case side4=> exact HC0_3.out);rintro e w11 ⟨v707,rfl,ho0,hb⟩;refine⟨_,rfl,?_⟩;have HO708:=My.m (Kd.R_lower (Kd.R_new' ho0 (Kd.R_lt (My.Ra HO_10.out))) (below_size My.bA));replace HO_10:=My.m (Kd.R_elder' (My.Ra HO_10.out) (Kd.R_base ho0) hb);replace BK705:=My.m (My.kb BK705.out hb);replace HB:=My.m (below_step My.bA hb);(repeat first|clear hb|clear hb2|clear hk|clear hi|clear ho0);obtain⟨Ao13,co13,eo13⟩:=Kd.R_slice HO708.out;subst eo13)|((with_reducible refine gate_builtin (b:= .append) (xs:= #[.tmp 26,.tmp 27]) rfl ?_);at_builtin;refine Kd.R_append_rows k54 (w0:=w) w.heap.size rfl (.tmp 26) (.tmp 27) 35 54 (.agg #[(.int .i64 0),(.bool false),(.string ⟨#[]⟩),(.string ⟨#[]⟩),(.int .i64 0),(.int .i64 0),(.int .i64 0),(.int .i64 0)]) 80 rfl Try.underlying35 info54 rfl (by decide) (by omega) u10 x10_1 t706 _ _ _ (fun k_=> some k_≠(.slice Ao13 t706.length co13:Value).ownBlock) (fun _=> False) rfl rfl ?aO ?aR (fun _ _ h=> h) (fun _ h=> h.elim) ?aF ?aB ?aS ?aL ?_;(case aR=> repeat(first|exact(Kd.R_reads' HO708.out).2.2|(with_reducible refine Kd.C_alloc ?_ _)|(with_reducible refine Kd.C_drewN ?_ _)|(with_reducible refine Kd.C_drew ?_)));(case aB=> exact My.bA);(case aF=> exact(fun k_ hk=> Kd.fresh' (Kd.R_lt (My.Ra HO708.out)) k_ hk));(case aO=> exact(by(with_reducible repeat(first|apply Kd.R_alloc|apply Kd.R_drewN|apply Kd.R_drew));exact Kd.R_mono HO_10.out (fun _ hk=> hk.2)));(case aS=> exact(below_size My.bA));(case aL=> have:=LMc8.out;omega);intro v712 w12 ho hb hg hat;rw [←Ny711.out] at ho;replace BK705:=My.m (My.kg BK705.out hg (Kd.R_ne HO_10.out BK705.out (by decide)));replace HO708:=My.m (Kd.R_after (ok:=(fun _=> True)) (My.Ra HO708.out) hg hat);replace HB:=My.m hb;have HO713:=My.m ho;clear HO_10;clear ho hb hg hat;obtain⟨_,_,_,_⟩:=My.qc4 BK705.out;obtain⟨_,_,_,_⟩:=My.qf4 BK705.out))
            go_ret2
            exact⟨_,My.q1,by(with_reducible repeat(first|apply Kd.R_alloc|apply Kd.R_drewN|apply Kd.R_drew));exact Kd.R_mono HO713.out (fun _ hk=> trivial),My.bA⟩
          · rw [if_neg c9] at H
            have c9b0:=decide_eq_false c9;clear c9;have H':=Aside0.mk H;clear H;obtain⟨_,_,_,_⟩:=My.qc4 BK705.out;obtain⟨_,_,_,_⟩:=My.qf4 BK705.out
            go_wp2_with (first|((with_reducible refine gate_callee (f:=44) rfl ?_);refine goesL_ (some 19) rfl rfl Try.func44 (by kernel_rfl) rfl #[.agg #[.int .i64 a0_0,.int .i64 a0_1,.slice A0_2 l0_2.length c0_2,.slice A0_3 l0_3.length c0_3],.string a1,.int .i64 x2_1,.int .i64 a3] rfl My.ar ?_;(with_reducible refine(batonref07_Since.calls k1 a0_0 a0_1 _ _ l0_2 _ _ l0_3 a1 x2_1 a3 t706 t709 t710 _ ?side1 ?side2 ?side3 ?side4 A6.out).mono ?_);(case side1=> exact My.Ca (Kd.C_below HR0_2.out HB.out));(case side2=> exact HC0_2.out);(case side3=> exact My.Ca (Kd.C_below HR0_3.out HB.out));(case side4=> exact HC0_3.out);rintro e w16 ⟨v707,rfl,ho0,hb⟩;refine⟨_,rfl,?_⟩;have HO708:=My.m (Kd.R_lower (Kd.R_new' ho0 (Kd.R_lt (My.Ra HO_10.out))) (below_size My.bA));replace HO_10:=My.m (Kd.R_elder' (My.Ra HO_10.out) (Kd.R_base ho0) hb);replace BK705:=My.m (My.kb BK705.out hb);replace HB:=My.m (below_step My.bA hb);(repeat first|clear hb|clear hb2|clear hk|clear hi|clear ho0);obtain⟨Ao18,co18,eo18⟩:=Kd.R_slice HO708.out;subst eo18)|((with_reducible refine gate_builtin (b:= .append) (xs:= #[.tmp 26,.tmp 27]) rfl ?_);at_builtin;refine Kd.R_append_rows k54 (w0:=w) w.heap.size rfl (.tmp 26) (.tmp 27) 35 54 (.agg #[(.int .i64 0),(.bool false),(.string ⟨#[]⟩),(.string ⟨#[]⟩),(.int .i64 0),(.int .i64 0),(.int .i64 0),(.int .i64 0)]) 80 rfl Try.underlying35 info54 rfl (by decide) (by omega) u10 x10_1 t706 _ _ _ (fun k_=> some k_≠(.slice Ao18 t706.length co18:Value).ownBlock) (fun _=> False) rfl rfl ?aO ?aR (fun _ _ h=> h) (fun _ h=> h.elim) ?aF ?aB ?aS ?aL ?_;(case aR=> repeat(first|exact(Kd.R_reads' HO708.out).2.2|(with_reducible refine Kd.C_alloc ?_ _)|(with_reducible refine Kd.C_drewN ?_ _)|(with_reducible refine Kd.C_drew ?_)));(case aB=> exact My.bA);(case aF=> exact(fun k_ hk=> Kd.fresh' (Kd.R_lt (My.Ra HO708.out)) k_ hk));(case aO=> exact(by(with_reducible repeat(first|apply Kd.R_alloc|apply Kd.R_drewN|apply Kd.R_drew));exact Kd.R_mono HO_10.out (fun _ hk=> hk.2)));(case aS=> exact(below_size My.bA));(case aL=> have:=LMc8.out;omega);intro v712 w17 ho hb hg hat;rw [←Ny711.out] at ho;replace BK705:=My.m (My.kg BK705.out hg (Kd.R_ne HO_10.out BK705.out (by decide)));replace HO708:=My.m (Kd.R_after (ok:=(fun _=> True)) (My.Ra HO708.out) hg hat);replace HB:=My.m hb;have HO713:=My.m ho;clear HO_10;clear ho hb hg hat;obtain⟨_,_,_,_⟩:=My.qc4 BK705.out;obtain⟨_,_,_,_⟩:=My.qf4 BK705.out))
            go_roundg k1
            case measure=> have:=HK1.out;omega
            case rel=> exact⟨(t709),(y711),My.q0,H',⟨by have:=HK1.out;omega⟩,⟨by(with_reducible repeat(first|apply Kd.R_alloc|apply Kd.R_drewN|apply Kd.R_drew));exact Kd.R_mono HO713.out (fun _ hk=> trivial)⟩,⟨My.Ka BK705.out⟩,⟨My.bA⟩⟩
        · exact My.no c8 H
      · rw [if_neg c7] at H
        have c7b0:(t710 == 0)=false:=beq_eq_false_iff_ne.mpr c7;have c7b1:(t710 != 0)=true:=bne_iff_ne.mpr c7;simp only [Option.some.injEq,Prod.mk.injEq] at H;obtain⟨rfl,rfl⟩:=H;obtain⟨_,_,_,_⟩:=My.qc4 BK705.out;obtain⟨_,_,_,_⟩:=My.qf4 BK705.out
        go_wp2_with (first|((with_reducible refine gate_callee (f:=44) rfl ?_);refine goesL_ (some 19) rfl rfl Try.func44 (by kernel_rfl) rfl #[.agg #[.int .i64 a0_0,.int .i64 a0_1,.slice A0_2 l0_2.length c0_2,.slice A0_3 l0_3.length c0_3],.string a1,.int .i64 x2_1,.int .i64 a3] rfl My.ar ?_;(with_reducible refine(batonref07_Since.calls k1 a0_0 a0_1 _ _ l0_2 _ _ l0_3 a1 x2_1 a3 t706 t709 t710 _ ?side1 ?side2 ?side3 ?side4 A6.out).mono ?_);(case side1=> exact My.Ca (Kd.C_below HR0_2.out HB.out));(case side2=> exact HC0_2.out);(case side3=> exact My.Ca (Kd.C_below HR0_3.out HB.out));(case side4=> exact HC0_3.out);rintro e w21 ⟨v707,rfl,ho0,hb⟩;refine⟨_,rfl,?_⟩;have HO708:=My.m (Kd.R_lower (Kd.R_new' ho0 (Kd.R_lt (My.Ra HO_10.out))) (below_size My.bA));replace HO_10:=My.m (Kd.R_elder' (My.Ra HO_10.out) (Kd.R_base ho0) hb);replace BK705:=My.m (My.kb BK705.out hb);replace HB:=My.m (below_step My.bA hb);(repeat first|clear hb|clear hb2|clear hk|clear hi|clear ho0)))
        go_ret2
        exact⟨_,My.q1,by first|exact Kd.R_nil _ _ _ _ _|exact Kd.N_nil _ _ _ _ _|exact Kd.V_nil _ _ _ _ _|exact Kd.Q_nil _ _ _ _ _|exact Kd.S_nil _ _ _ _ _,My.bA⟩

end Go.Proofs.Ytaebmmjhokjdbaa.PM
