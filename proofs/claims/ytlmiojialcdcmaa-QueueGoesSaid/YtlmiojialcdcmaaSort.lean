/- The library's stable sort by a ticket's comparison, in plain Lean: what its printed functions come to. -/
import Derived.Test.YtlmiojialcdcmaaPM19
import Derived.Test.YtlmiojialcdcmaaPM18
import Derived.Test.YtlmiojialcdcmaaPM17
import Derived.Test.YtlmiojialcdcmaaSortT
set_option linter.unusedSimpArgs false
namespace Go.Proofs.Ytlmiojialcdcmaa.PM
open Go.RowKit Go.Proofs.YtlmiojialcdcmaaW.PrintWords Go.Proofs.YtlmiojialcdcmaaW.PrintLast Go.Proofs.YtlmiojialcdcmaaW.PrintMore Go.Proofs.Ytlmiojialcdcmaa.My
set_option linter.unusedVariables false
set_option maxHeartbeats 400000
namespace SortF
open SortT
abbrev KV:=S49
def cmpL (a b:KV):Int:=if a.f2 < b.f2 then -1 else if a.f2 > b.f2 then 1 else Lib.compareBytes a.f0.data.toList b.f0.data.toList
def bf (a b:KV):Bool:=decide (cmpL a b < 0)
theorem cmp_f (a b:KV):ticket_Order_1.f a.f0 a.f1 a.f2 a.f3 a.f4 a.f5 b.f0 b.f1 b.f2 b.f3 b.f4 b.f5=some (cmpL a b):=rfl
theorem cb_iff:∀a b:List UInt8,Lib.compareBytes a b < 0↔Op.bytesLess a b=true
  | [],[]=> by simp [Lib.compareBytes,Op.bytesLess]
  | [],_ :: _=> by simp [Lib.compareBytes,Op.bytesLess]
  |_ :: _,[]=> by simp [Lib.compareBytes,Op.bytesLess]
  |a :: x,b :: y=> by
    have ih:=cb_iff x y
    unfold Lib.compareBytes Op.bytesLess
    by_cases h:a < b
    · simp [h]
    · by_cases h2:b < a
      · have h3:(a == b)=false:=by
          rw [beq_eq_false_iff_ne]
          rintro rfl
          exact h h2
        simp [h,h2,h3]
      · have h3:a=b:=by
          rw [UInt8.lt_iff_toNat_lt] at h h2
          exact UInt8.toNat_inj.1 (by omega)
        subst h3
        simp [h,ih]
theorem bf_iff (a b:KV):bf a b=true↔a.f2 < b.f2∨(a.f2=b.f2∧Op.bytesLess a.f0.data.toList b.f0.data.toList=true):=by
  unfold bf cmpL
  rw [decide_eq_true_eq,←cb_iff]
  by_cases h:a.f2 < b.f2
  · simp [h]
  · by_cases h2:a.f2 > b.f2
    · rw [if_neg h,if_pos h2]
      constructor
      · intro c;omega
      · rintro (c|c) <;> omega
    · rw [if_neg h,if_neg h2]
      constructor
      · exact fun c=> .inr ⟨by omega,c⟩
      · rintro (c|c)
        · exact absurd c h
        · exact c.2
theorem less_trans:∀a b c:List UInt8,Op.bytesLess a b=true→Op.bytesLess b c=true→Op.bytesLess a c=true
  |_,[],_,h,_=> by cases ‹List UInt8› <;> simp [Op.bytesLess] at h
  |_,_ :: _,[],_,h=> by simp [Op.bytesLess] at h
  | [],_ :: _,_ :: _,_,_=> rfl
  |x :: a,y :: b,z :: c,h1,h2=> by
    simp only [Op.bytesLess,Bool.or_eq_true,Bool.and_eq_true,decide_eq_true_eq,beq_iff_eq] at h1 h2⊢
    rcases h1 with h1|⟨rfl,h1⟩
    · rcases h2 with h2|⟨rfl,h2⟩
      · left
        rw [UInt8.lt_iff_toNat_lt] at h1 h2⊢
        omega
      · exact .inl h1
    · rcases h2 with h2|⟨rfl,h2⟩
      · exact .inl h2
      · exact .inr ⟨rfl,less_trans a b c h1 h2⟩
theorem not_less {a b:List UInt8} (h:¬Op.bytesLess a b=true):Op.bytesLess b a=true∨b=a:=by
  have e:=less_or b a
  simp only [Bool.not_eq_true] at h
  rw [h] at e
  simpa using e
theorem sw:SW bf where
  asym:=by
    intro a b h c
    rw [bf_iff] at h c
    rcases h with h|⟨h1,h2⟩
    · rcases c with c|⟨c,_⟩ <;> omega
    · rcases c with c|⟨_,c2⟩
      · omega
      · have e:=less_or a.f0.data.toList b.f0.data.toList
        rw [h2,c2] at e
        simp at e
  tie:=by
    intro a b c h1 h2 h3
    rw [bf_iff] at h1 h2 h3
    have e1:b.f2≤a.f2:=by
      apply Decidable.byContradiction
      intro q
      exact h1 (.inl (by omega))
    have e2:c.f2≤b.f2:=by
      apply Decidable.byContradiction
      intro q
      exact h2 (.inl (by omega))
    rcases h3 with h3|⟨h3,h4⟩
    · omega
    · have n1:¬Op.bytesLess a.f0.data.toList b.f0.data.toList=true:=fun q=> h1 (.inr ⟨by omega,q⟩)
      have n2:¬Op.bytesLess b.f0.data.toList c.f0.data.toList=true:=fun q=> h2 (.inr ⟨by omega,q⟩)
      rcases not_less n2 with q|q
      · exact n1 (less_trans _ _ _ h4 q)
      · rw [q] at h4
        exact n1 h4
theorem rdA (p:List KV) (x:KV) (q:List KV) {i:Int} (h:i=(p.length:Int)):rd_T49 (p ++ x :: q) i=x:=by
  subst h
  simp [rd_T49]
theorem setA (p:List KV) (x y:KV) (q:List KV) {i:Nat} (h:i=p.length):(p ++ x :: q).set i y=p ++ y :: q:=by
  subst h
  simp
theorem sm {n:Int} (h0:0≤n) (h1:n≤100000):wrap64 n=n:=w64 (by omega) (by omega)
theorem smE {n m:Int} (e:n=m) (h0:0≤m) (h1:m≤100000):wrap64 n=m:=by rw [e];exact sm h0 h1
theorem ins_l1 {b i0:Int} {P:List KV} {R:List KV} (n:Nat):∀(A Q:List KV) (x:KV),A.length=n→srt bf A→P.length + A.length + Q.length≤2000→0≤i0→i0≤3000→
    Ev (fun k=> api_KV_57.l0 k (P ++ (ins bf x A ++ Q)) (P.length:Int) b (i0 + 1)) R→
    Ev (fun k=> api_KV_57.l1 k (P ++ (A ++ x :: Q)) (P.length:Int) b i0 ((P.length + A.length:Nat):Int)) R:=by
  induction n with
  |zero=>
    intro A Q x hn hs hb h0 h1 hR
    obtain rfl:A= []:=List.length_eq_zero_iff.1 hn
    refine Ev.step (fun k=> by apply api_KV_57.l1.eq_2) (ev_ifn (by simp) ?_)
    rw [w64 (by omega) (by omega)]
    exact hR
  |succ n ih=>
    intro A Q x hn hs hb h0 h1 hR
    rcases List.eq_nil_or_concat A with rfl|⟨A',y,rfl⟩
    · simp at hn
    simp only [List.concat_eq_append] at hn hs hb hR⊢
    have hl:A'.length=n:=by simpa using hn
    have e1:((P.length + (A' ++ [y]).length:Nat):Int)=((P.length + A'.length + 1:Nat):Int):=by simp;omega
    have e2:wrap64 (((P.length + A'.length + 1:Nat):Int) - 1)=((P.length + A'.length:Nat):Int):=by rw [w64 (by omega) (by omega)];omega
    have e3:P ++ (A' ++ [y] ++ x :: Q)=(P ++ A' ++ [y]) ++ x :: Q:=by simp
    have e4:P ++ (A' ++ [y] ++ x :: Q)=(P ++ A') ++ y :: (x :: Q):=by simp
    have r1:rd_T49 (P ++ (A' ++ [y] ++ x :: Q)) ((P.length + A'.length + 1:Nat):Int)=x:=by rw [e3];exact rdA _ _ _ (by simp;omega)
    have r2:rd_T49 (P ++ (A' ++ [y] ++ x :: Q)) ((P.length + A'.length:Nat):Int)=y:=by rw [e4];exact rdA _ _ _ (by simp)
    have ll:(P ++ (A' ++ [y] ++ x :: Q)).length=P.length + A'.length + Q.length + 2:=by simp;omega
    simp only [List.length_append,List.length_cons,List.length_nil] at hb
    rw [e1]
    refine Ev.step (fun k=> by apply api_KV_57.l1.eq_2) (ev_if (by omega) (ev_if (by omega) (ev_if (by rw [ll];omega) ?_)))
    rw [e2,r1,r2]
    refine ev_if (by omega) (ev_if (by rw [ll];omega) (ev_c (cmp_f x y) ?_))
    by_cases c:cmpL x y < 0
    · have cb:bf x y=true:=decide_eq_true c
      refine ev_if c ?_
      have s1:((P ++ (A' ++ [y] ++ x :: Q)).set ((P.length + A'.length + 1:Nat):Int).toNat y).set ((P.length + A'.length:Nat):Int).toNat x=P ++ (A' ++ x :: (y :: Q)):=by
        rw [e3,setA _ _ _ _ (by simp;omega),show(P ++ A' ++ [y]) ++ y :: Q=(P ++ A') ++ y :: (y :: Q) by simp,setA _ _ _ _ (by rw [Int.toNat_natCast,List.length_append])]
        simp
      show Ev (fun k=> api_KV_57.l1 k (((P ++ (A' ++ [y] ++ x :: Q)).set ((P.length + A'.length + 1:Nat):Int).toNat y).set ((P.length + A'.length:Nat):Int).toNat x) _ _ _ _) _
      rw [s1]
      refine ih A' (y :: Q) x hl (List.pairwise_append.1 hs).1 (by simp;omega) h0 h1 ?_
      rw [ins_ahead (q:= [y]) (by simpa using cb)] at hR
      simpa using hR
    · have cb:¬bf x y=true:=by unfold bf;simpa using c
      refine ev_ifn c ?_
      rw [w64 (by omega) (by omega)]
      have hq:∀z∈A' ++ [y],¬bf x z=true:=by
        intro z hz
        rcases List.mem_append.1 hz with hz|hz
        · exact sw.tie x y z cb ((List.pairwise_append.1 hs).2.2 z hz y (by simp))
        · rw [List.mem_singleton.1 hz];exact cb
      have hi:=ins_behind (q:= []) hq
      rw [List.append_nil] at hi
      rw [hi] at hR
      have e5:P ++ (A' ++ [y] ++ ins bf x [] ++ Q)=P ++ (A' ++ [y] ++ x :: Q):=by simp [ins]
      rw [e5] at hR
      exact hR
theorem ins_l0 {P:List KV} {b:Int}:∀(B A Q:List KV),srt bf A→b=((P.length + A.length + B.length:Nat):Int)→P.length + A.length + B.length + Q.length≤2000→
    Ev (fun k=> api_KV_57.l0 k (P ++ (A ++ (B ++ Q))) (P.length:Int) b ((P.length + A.length:Nat):Int)) (P ++ (mrg bf A B ++ Q))
  | [],A,Q,hs,hb,hl=> Ev.step (fun k=> by apply api_KV_57.l0.eq_2) (ev_ifn (by simp only [List.length_nil] at hb;omega) (ev_now rfl))
  |x :: B,A,Q,hs,hb,hl=> by
    simp only [List.length_cons] at hb hl
    refine Ev.step (fun k=> by apply api_KV_57.l0.eq_2) (ev_if (by omega) ?_)
    have hk:=ins_l0 (P:=P) (b:=b) B (ins bf x A) Q (ins_srt sw x hs) (by rw [ins_len];omega) (by rw [ins_len];omega)
    refine ins_l1 A.length A (B ++ Q) x rfl hs (by simp;omega) (by omega) (by omega) ?_
    rw [ins_len] at hk
    rw [mrg_cons]
    have e:((P.length + A.length:Nat):Int) + 1=((P.length + (A.length + 1):Nat):Int):=by omega
    rw [e]
    exact hk
theorem ins_f (P S Q:List KV) (hl:P.length + S.length + Q.length≤2000):Ev (fun k=> api_KV_57.f k (P ++ (S ++ Q)) (P.length:Int) ((P.length + S.length:Nat):Int) ()) (P ++ (tsort bf S ++ Q)):=by
  unfold api_KV_57.f
  rw [w64 (by omega) (by omega)]
  cases S with
  |nil=> exact Ev.step (fun k=> by apply api_KV_57.l0.eq_2) (ev_ifn (by simp only [List.length_nil];omega) (ev_now rfl))
  |cons x S=>
    simp only [List.length_cons] at hl
    have:=ins_l0 (P:=P) (b:=((P.length + (x :: S).length:Nat):Int)) S [x] Q (by simp [srt]) (by simp;omega) (by simp;omega)
    exact this
theorem et (z:KV):(⟨z.f0,z.f1,z.f2,z.f3,z.f4,z.f5⟩:KV)=z:=rfl
theorem swp_l {P M Q:List KV} (n:Nat):∀(X2 Y2 X1 Y1:List KV),X2.length=n→Y2.length=n→X1.length=Y1.length→P.length + 2 * (Y1.length + n) + M.length + Q.length≤2000→
    Ev (fun k=> api_KV_61.l0 k (P ++ (Y1 ++ (X2 ++ (M ++ (X1 ++ (Y2 ++ Q)))))) (P.length:Int) ((P.length + Y1.length + n + M.length:Nat):Int) ((Y1.length + n:Nat):Int) ((Y1.length:Nat):Int)) (P ++ (Y1 ++ (Y2 ++ (M ++ (X1 ++ (X2 ++ Q)))))):=by
  induction n with
  |zero=>
    intro X2 Y2 X1 Y1 h1 h2 h3 hl
    obtain rfl:=List.length_eq_zero_iff.1 h1
    obtain rfl:=List.length_eq_zero_iff.1 h2
    exact Ev.step (fun k=> by apply api_KV_61.l0.eq_2) (ev_ifn (by omega) (ev_now rfl))
  |succ n ih=>
    intro X2 Y2 X1 Y1 h1 h2 h3 hl
    obtain⟨x,X2,rfl⟩:=List.exists_cons_of_length_eq_add_one h1
    obtain⟨y,Y2,rfl⟩:=List.exists_cons_of_length_eq_add_one h2
    simp only [List.length_cons,Nat.add_right_cancel_iff] at h1 h2
    obtain⟨ia,hia⟩:∃z:Int,z=((P.length + Y1.length:Nat):Int):=⟨_,rfl⟩
    obtain⟨ib,hib⟩:∃z:Int,z=((P.length + Y1.length + (n + 1) + M.length + X1.length:Nat):Int):=⟨_,rfl⟩
    have ea:=Aside0.mk (show wrap64 ((P.length:Int) + ((Y1.length:Nat):Int))=ia from smE (by omega) (by omega) (by omega))
    have eb:=Aside0.mk (show wrap64 (((P.length + Y1.length + (n + 1) + M.length:Nat):Int) + ((Y1.length:Nat):Int))=ib from smE (by omega) (by omega) (by omega))
    have ei:=Aside0.mk (show wrap64 (((Y1.length:Nat):Int) + 1)=((Y1.length + 1:Nat):Int) from smE (by omega) (by omega) (by omega))
    have f1:P ++ (Y1 ++ (x :: X2 ++ (M ++ (X1 ++ (y :: Y2 ++ Q)))))=(P ++ Y1) ++ x :: (X2 ++ (M ++ (X1 ++ (y :: Y2 ++ Q)))):=by simp
    have f2:P ++ (Y1 ++ (x :: X2 ++ (M ++ (X1 ++ (y :: Y2 ++ Q)))))=(P ++ Y1 ++ x :: X2 ++ M ++ X1) ++ y :: (Y2 ++ Q):=by simp
    have f3:(P ++ Y1) ++ y :: (X2 ++ (M ++ (X1 ++ (y :: Y2 ++ Q))))=(P ++ Y1 ++ y :: X2 ++ M ++ X1) ++ y :: (Y2 ++ Q):=by simp
    have ll:((P ++ (Y1 ++ (x :: X2 ++ (M ++ (X1 ++ (y :: Y2 ++ Q)))))).length:Int)=ib + (n + 1) + Q.length:=by rw [hib];simp [h1,h2];omega
    have l1:(P ++ Y1).length=ia.toNat:=by rw [hia,Int.toNat_natCast,List.length_append]
    have l2:∀z:KV,(P ++ Y1 ++ z :: X2 ++ M ++ X1).length=ib.toNat:=fun z=> by rw [hib,Int.toNat_natCast];simp [h1];omega
    have hnn:0≤ia∧0≤ib∧ia < ib:=⟨by omega,by omega,by omega⟩
    have r1:rd_T49 (P ++ (Y1 ++ (x :: X2 ++ (M ++ (X1 ++ (y :: Y2 ++ Q)))))) ia=x:=by rw [f1];exact rdA _ _ _ (by rw [l1];omega)
    have r2:rd_T49 (P ++ (Y1 ++ (x :: X2 ++ (M ++ (X1 ++ (y :: Y2 ++ Q)))))) ib=y:=by rw [f2];exact rdA _ _ _ (by rw [l2];omega)
    have s1:((P ++ (Y1 ++ (x :: X2 ++ (M ++ (X1 ++ (y :: Y2 ++ Q)))))).set ia.toNat y).set ib.toNat x=P ++ ((Y1 ++ [y]) ++ (X2 ++ (M ++ ((X1 ++ [x]) ++ (Y2 ++ Q))))):=by
      rw [f1,setA _ _ _ _ l1.symm,f3,setA _ _ _ _ (l2 y).symm]
      simp
    refine Ev.step (fun k=> by apply api_KV_61.l0.eq_2) (ev_if (by omega) ?_)
    rw [ea.out,eb.out,ei.out]
    clear f1 f2 f3 ea eb ei l1 l2
    generalize P ++ (Y1 ++ (x :: X2 ++ (M ++ (X1 ++ (y :: Y2 ++ Q)))))=L at ll r1 r2 s1⊢
    have b1:ib < (L.length:Int):=by omega
    have b2:ia < (L.length:Int):=by omega
    clear hia hib
    refine ev_if hnn.2.1 (ev_if b1 (ev_if hnn.1 (ev_if b2 ?_)))
    simp only [r1,r2,et,s1]
    have hk:=ih X2 Y2 (X1 ++ [x]) (Y1 ++ [y]) h1 h2 (by simp [h3]) (by simp;omega)
    have g1:(P.length + (Y1 ++ [y]).length + n + M.length:Nat)=P.length + Y1.length + (n + 1) + M.length:=by simp;omega
    have g2:((Y1 ++ [y]).length + n:Nat)=Y1.length + (n + 1):=by simp;omega
    have g3:(Y1 ++ [y]).length=Y1.length + 1:=by simp
    rw [g1,g2,g3] at hk
    simpa using hk
theorem swp_f (P X M Y Q:List KV) (h:X.length=Y.length) (hl:P.length + 2 * X.length + M.length + Q.length≤2000):
    Ev (fun k=> api_KV_61.f k (P ++ (X ++ (M ++ (Y ++ Q)))) (P.length:Int) ((P.length + X.length + M.length:Nat):Int) (X.length:Int) ()) (P ++ (Y ++ (M ++ (X ++ Q)))):=by
  have:=swp_l (P:=P) (M:=M) (Q:=Q) X.length X Y [] [] rfl h.symm rfl (by simp;omega)
  unfold api_KV_61.f
  simpa using this
theorem rot_l {n:Nat}:∀(P A B Q:List KV),A.length + B.length≤n→A≠ []→B≠ []→P.length + A.length + B.length + Q.length≤2000→
    Ev (fun k=> api_KV_60.l0 k (P ++ (A ++ (B ++ Q))) ((P.length + A.length:Nat):Int) () (A.length:Int) (B.length:Int)) (P ++ (B ++ (A ++ Q))):=by
  induction n with
  |zero=>
    intro P A B Q h ha hb
    exact absurd (List.length_eq_zero_iff.1 (by omega)) ha
  |succ n ih=>
    intro P A B Q h ha hb hl
    have la:=List.length_pos_iff.2 ha
    have lb:=List.length_pos_iff.2 hb
    have e1:=Aside0.mk (show wrap64 (((P.length + A.length:Nat):Int) - (A.length:Int))=(P.length:Int) from smE (by omega) (by omega) (by omega))
    refine Ev.step (fun k=> by apply api_KV_60.l0.eq_2) ?_
    by_cases c:(A.length:Int)=(B.length:Int)
    · refine ev_if c (ev_b (b:=P ++ (B ++ (A ++ Q))) ?_ (ev_now rfl))
      rw [e1.out]
      have:=swp_f P A [] B Q (by omega) (by simp;omega)
      simpa using this
    · refine ev_ifn c ?_
      by_cases c2:(A.length:Int) > (B.length:Int)
      · clear e1
        obtain⟨A1,A2,rfl,h1⟩:∃A1 A2,A=A1 ++ A2∧A1.length=B.length:=⟨A.take B.length,A.drop B.length,(List.take_append_drop _ _).symm,by rw [List.length_take];omega⟩
        simp only [List.length_append] at h hl la c c2⊢
        refine ev_if c2 ?_
        rw [show wrap64 (((P.length + (A1.length + A2.length):Nat):Int) - ((A1.length + A2.length:Nat):Int))=(P.length:Int) from smE (by omega) (by omega) (by omega)]
        have hs:=swp_f P A1 A2 B Q h1 (by omega)
        have g1:((P.length + A1.length + A2.length:Nat):Int)=((P.length + (A1.length + A2.length):Nat):Int):=by omega
        rw [g1] at hs
        have g2:P ++ (A1 ++ A2 ++ (B ++ Q))=P ++ (A1 ++ (A2 ++ (B ++ Q))):=by simp
        rw [g2,show(B.length:Int)=(A1.length:Int) by omega]
        refine ev_b hs ?_
        have e2:=Aside0.mk (show wrap64 (((A1.length + A2.length:Nat):Int) - (A1.length:Int))=(A2.length:Int) from smE (by omega) (by omega) (by omega))
        rw [e2.out]
        have h2:A2≠ []:=by rintro rfl;simp at c2;omega
        have h3:A1≠ []:=by rintro rfl;simp at h1;omega
        have hk:=ih (P ++ B) A2 A1 Q (by omega) h2 h3 (by simp;omega)
        have g3:((P ++ B).length + A2.length:Nat)=P.length + (A1.length + A2.length):=by simp;omega
        rw [g3] at hk
        simpa using hk
      · refine ev_ifn c2 ?_
        obtain⟨B1,B2,rfl,h1⟩:∃B1 B2,B=B1 ++ B2∧B2.length=A.length:=⟨B.take (B.length - A.length),B.drop (B.length - A.length),(List.take_append_drop _ _).symm,by rw [List.length_drop];omega⟩
        simp only [List.length_append] at h hl lb c c2⊢
        have e2:=Aside0.mk (show wrap64 (((P.length + A.length:Nat):Int) + ((B1.length + B2.length:Nat):Int))=((P.length + A.length + B1.length + B2.length:Nat):Int) from smE (by omega) (by omega) (by omega))
        have e3:=Aside0.mk (show wrap64 (((P.length + A.length + B1.length + B2.length:Nat):Int) - (A.length:Int))=((P.length + A.length + B1.length:Nat):Int) from smE (by omega) (by omega) (by omega))
        have e4:=Aside0.mk (show wrap64 (((B1.length + B2.length:Nat):Int) - (A.length:Int))=(B1.length:Int) from smE (by omega) (by omega) (by omega))
        rw [e1.out,e2.out,e3.out,e4.out]
        have g2:P ++ (A ++ (B1 ++ B2 ++ Q))=P ++ (A ++ (B1 ++ (B2 ++ Q))):=by simp
        rw [g2]
        refine ev_b (swp_f P A B1 B2 Q h1.symm (by omega)) ?_
        have h2:B1≠ []:=by rintro rfl;simp at c c2;omega
        have h3:B2≠ []:=by rintro rfl;simp at h1;omega
        have hk:=ih P B2 B1 (A ++ Q) (by omega) h3 h2 (by simp;omega)
        rw [h1] at hk
        simpa using hk
theorem rot_f (P A B Q:List KV) (ha:A≠ []) (hb:B≠ []) (hl:P.length + A.length + B.length + Q.length≤2000):
    Ev (fun k=> api_KV_60.f k (P ++ (A ++ (B ++ Q))) (P.length:Int) ((P.length + A.length:Nat):Int) ((P.length + A.length + B.length:Nat):Int) ()) (P ++ (B ++ (A ++ Q))):=by
  unfold api_KV_60.f
  rw [show wrap64 (((P.length + A.length:Nat):Int) - (P.length:Int))=(A.length:Int) from smE (by omega) (by omega) (by omega),show wrap64 (((P.length + A.length + B.length:Nat):Int) - ((P.length + A.length:Nat):Int))=(B.length:Int) from smE (by omega) (by omega) (by omega)]
  exact rot_l P A B Q (Nat.le_refl _) ha hb hl
theorem hf {x y:Int} (h0:0≤x) (h1:x≤5000) (h2:0≤y) (h3:y≤5000):wrap64 ((IntKind.u64.wrap (wrap64 (x + y))) / 2)=(x + y) / 2:=by
  rw [sm (n:=x + y) (by omega) (by omega)]
  have e:IntKind.u64.wrap (x + y)=x + y:=by simp [IntKind.wrap,IntKind.bits,IntKind.signed];omega
  rw [e]
  exact sm (by omega) (by omega)
theorem shr {P D:List KV} {x:KV}:∀(C2 C1:List KV),P.length + C1.length + C2.length + D.length≤2000→
    Ev (fun k=> api_KV_58.l1 k (P ++ (C1 ++ x :: (C2 ++ D))) ((P.length + C1.length + C2.length + 1:Nat):Int) ((P.length + C1.length:Nat):Int)) (P ++ (C1 ++ (C2 ++ x :: D)))
  | [],C1,hl=> by
    have e1:=Aside0.mk (show wrap64 (((P.length + C1.length + ([]:List KV).length + 1:Nat):Int) - 1)=((P.length + C1.length:Nat):Int) from smE (by simp only [List.length_nil];omega) (by omega) (by simp only [List.length_nil] at hl;omega))
    refine Ev.step (fun k=> by apply api_KV_58.l1.eq_2) ?_
    rw [e1.out]
    exact ev_ifn (Int.lt_irrefl _) (ev_now rfl)
  |y :: C2,C1,hl=> by
    simp only [List.length_cons] at hl
    obtain⟨ia,hia⟩:∃z:Int,z=((P.length + C1.length:Nat):Int):=⟨_,rfl⟩
    have e1:=Aside0.mk (show wrap64 (((P.length + C1.length + (y :: C2).length + 1:Nat):Int) - 1)=ia + (C2.length + 1) from smE (by simp only [List.length_cons];omega) (by omega) (by omega))
    have e2:=Aside0.mk (show wrap64 (ia + 1)=ia + 1 from sm (by omega) (by omega))
    have f1:P ++ (C1 ++ x :: (y :: C2 ++ D))=(P ++ C1) ++ x :: (y :: (C2 ++ D)):=by simp
    have f2:P ++ (C1 ++ x :: (y :: C2 ++ D))=(P ++ C1 ++ [x]) ++ y :: (C2 ++ D):=by simp
    have f3:(P ++ C1) ++ y :: (y :: (C2 ++ D))=(P ++ C1 ++ [y]) ++ y :: (C2 ++ D):=by simp
    have l1:(P ++ C1).length=ia.toNat:=by rw [hia,Int.toNat_natCast,List.length_append]
    have l2:∀z:KV,(P ++ C1 ++ [z]).length=(ia + 1).toNat:=fun z=> by rw [List.length_append,l1];simp;omega
    have ll:((P ++ (C1 ++ x :: (y :: C2 ++ D))).length:Int)=ia + 2 + C2.length + D.length:=by rw [hia];simp;omega
    have r1:rd_T49 (P ++ (C1 ++ x :: (y :: C2 ++ D))) ia=x:=by rw [f1];exact rdA _ _ _ (by rw [l1];omega)
    have r2:rd_T49 (P ++ (C1 ++ x :: (y :: C2 ++ D))) (ia + 1)=y:=by rw [f2];exact rdA _ _ _ (by rw [l2];omega)
    have s1:((P ++ (C1 ++ x :: (y :: C2 ++ D))).set ia.toNat y).set (ia + 1).toNat x=P ++ ((C1 ++ [y]) ++ x :: (C2 ++ D)):=by
      rw [f1,setA _ _ _ _ l1.symm,f3,setA _ _ _ _ (l2 y).symm]
      simp
    have hk:=shr (P:=P) (D:=D) (x:=x) C2 (C1 ++ [y]) (by simp;omega)
    have g1:(((P.length + (C1 ++ [y]).length + C2.length + 1:Nat):Int))=((P.length + C1.length + (y :: C2).length + 1:Nat):Int):=by simp;omega
    have g2:(((P.length + (C1 ++ [y]).length:Nat):Int))=ia + 1:=by simp;omega
    rw [g1,g2] at hk
    have g3:P ++ ((C1 ++ [y]) ++ (C2 ++ x :: D))=P ++ (C1 ++ (y :: C2 ++ x :: D)):=by simp
    rw [g3] at hk
    rw [←hia]
    refine Ev.step (fun k=> by apply api_KV_58.l1.eq_2) ?_
    rw [e1.out,e2.out]
    clear f1 f2 f3 e1 e2 l1 l2 g1 g2 g3
    generalize P ++ (C1 ++ x :: (y :: C2 ++ D))=L at ll r1 r2 s1⊢
    refine ev_if (by omega) (ev_if (by omega) (ev_if (by omega) (ev_if (by omega) (ev_if (by omega) ?_))))
    simp only [r1,r2,et,s1]
    exact hk
theorem shl {P:List KV} {y:KV} (n:Nat):∀(C2 C1 D:List KV),C2.length=n→P.length + C1.length + C2.length + D.length≤2000→
    Ev (fun k=> api_KV_58.l3 k (P ++ (C1 ++ (C2 ++ y :: D))) ((P.length + C1.length:Nat):Int) ((P.length + C1.length + C2.length:Nat):Int)) (P ++ (C1 ++ y :: (C2 ++ D))):=by
  induction n with
  |zero=>
    intro C2 C1 D hn hl
    obtain rfl:=List.length_eq_zero_iff.1 hn
    exact Ev.step (fun k=> by apply api_KV_58.l3.eq_2) (ev_ifn (by simp) (ev_now rfl))
  |succ n ih=>
    intro C2 C1 D hn hl
    rcases List.eq_nil_or_concat C2 with rfl|⟨C,z,rfl⟩
    · simp at hn
    simp only [List.concat_eq_append] at hn hl⊢
    have hc:C.length=n:=by simpa using hn
    simp only [List.length_append,List.length_cons,List.length_nil] at hl
    obtain⟨ia,hia⟩:∃q:Int,q=((P.length + C1.length + C.length:Nat):Int):=⟨_,rfl⟩
    have g0:((P.length + C1.length + (C ++ [z]).length:Nat):Int)=ia + 1:=by simp;omega
    have e2:=Aside0.mk (show wrap64 (ia + 1 - 1)=ia from smE (by omega) (by omega) (by omega))
    have f1:P ++ (C1 ++ (C ++ [z] ++ y :: D))=(P ++ C1 ++ C) ++ z :: (y :: D):=by simp
    have f2:P ++ (C1 ++ (C ++ [z] ++ y :: D))=(P ++ C1 ++ C ++ [z]) ++ y :: D:=by simp
    have f3:(P ++ C1 ++ C ++ [z]) ++ z :: D=(P ++ C1 ++ C) ++ z :: (z :: D):=by simp
    have l1:(P ++ C1 ++ C).length=ia.toNat:=by rw [hia,Int.toNat_natCast];simp;omega
    have l2:(P ++ C1 ++ C ++ [z]).length=(ia + 1).toNat:=by rw [List.length_append,l1];simp;omega
    have ll:((P ++ (C1 ++ (C ++ [z] ++ y :: D))).length:Int)=ia + 2 + D.length:=by rw [hia];simp;omega
    have r1:rd_T49 (P ++ (C1 ++ (C ++ [z] ++ y :: D))) ia=z:=by rw [f1];exact rdA _ _ _ (by rw [l1];omega)
    have r2:rd_T49 (P ++ (C1 ++ (C ++ [z] ++ y :: D))) (ia + 1)=y:=by rw [f2];exact rdA _ _ _ (by rw [l2];omega)
    have s1:((P ++ (C1 ++ (C ++ [z] ++ y :: D))).set (ia + 1).toNat z).set ia.toNat y=P ++ (C1 ++ (C ++ y :: (z :: D))):=by
      rw [f2,setA _ _ _ _ l2.symm,f3,setA _ _ _ _ l1.symm]
      simp
    have hk:=ih C C1 (z :: D) hc (by simp;omega)
    rw [←hia] at hk
    have g3:P ++ (C1 ++ y :: (C ++ [z] ++ D))=P ++ (C1 ++ y :: (C ++ z :: D)):=by simp
    rw [g0,g3]
    refine Ev.step (fun k=> by apply api_KV_58.l3.eq_2) ?_
    rw [e2.out]
    clear f1 f2 f3 e2 l1 l2 g3 g0
    generalize P ++ (C1 ++ (C ++ [z] ++ y :: D))=L at ll r1 r2 s1⊢
    refine ev_if (by omega) (ev_if (by omega) (ev_if (by omega) (ev_if (by omega) (ev_if (by omega) ?_))))
    simp only [r1,r2,et,s1]
    exact hk
theorem rdB {P Q B:List KV} {i:Nat} (h:i < B.length) {j:Int} (hj:j=((P.length + i:Nat):Int)):rd_T49 (P ++ (B ++ Q)) j=B[i]:=by
  subst hj
  have e:(P ++ (B ++ Q))[P.length + i]? =B[i]? :=by
    rw [List.getElem?_append_right (by omega),List.getElem?_append_left (by omega)]
    congr 1
    omega
  unfold rd_T49
  rw [Int.toNat_natCast,List.getD_eq_getElem?_getD,e,List.getElem?_eq_getElem h]
  rfl
theorem srt_le {B:List KV} (hs:srt bf B) {i j:Nat} (h:i < j) (hj:j < B.length):¬bf B[j] (B[i]'(by omega))=true:=by
  unfold srt at hs
  exact List.pairwise_iff_getElem.1 hs i j (by omega) hj h
theorem split1 {x:KV} {B:List KV} (s:Nat) (hs:srt bf B) (h1:∀h (hh:h < B.length),h < s→bf B[h] x=true) (h2:∀h (hh:h < B.length),s≤h→¬bf B[h] x=true):mrg bf [x] B=B.take s ++ x :: B.drop s:=by
  have hp:=mrg_parts (lt:=bf) (a1:= []) (a2:= [x]) (b1:=B.take s) (b2:=B.drop s) (by simp) (by
    intro y hy z hz
    rw [List.mem_singleton.1 hz]
    obtain⟨i,hi,rfl⟩:=List.getElem_of_mem hy
    rw [List.length_take] at hi
    rw [List.getElem_take]
    exact h1 i (by omega) (by omega)) (by
    intro y hy z hz
    obtain⟨i,hi,rfl⟩:=List.getElem_of_mem hy
    obtain⟨j,hj,rfl⟩:=List.getElem_of_mem hz
    rw [List.length_drop] at hi
    rw [List.length_take] at hj
    rw [List.getElem_drop,List.getElem_take]
    exact srt_le hs (by omega) (by omega))
  rw [List.nil_append,List.take_append_drop] at hp
  have ht:srt bf (B.take s):=hs.sublist (List.take_sublist _ _)
  have hd:srt bf (B.drop s):=hs.sublist (List.drop_sublist _ _)
  rw [hp,mrg_nil' ht,mrg_self [x] hd]
  · rfl
  · intro y hy z hz
    rw [List.mem_singleton.1 hz]
    obtain⟨i,hi,rfl⟩:=List.getElem_of_mem hy
    rw [List.length_drop] at hi
    rw [List.getElem_drop]
    exact h2 _ (by omega) (by omega)
theorem one_l0 {P Q B:List KV} {x:KV} (hs:srt bf B) (hl:P.length + B.length + Q.length≤1500) (n:Nat):∀lo hi:Nat,hi - lo≤n→lo≤hi→hi≤B.length→
    (∀h (hh:h < B.length),h < lo→bf B[h] x=true)→(∀h (hh:h < B.length),hi≤h→¬bf B[h] x=true)→
    Ev (fun k=> api_KV_58.l0 k (P ++ (x :: (B ++ Q))) (P.length:Int) ((P.length + 1 + lo:Nat):Int) ((P.length + 1 + hi:Nat):Int)) (P ++ (mrg bf [x] B ++ Q)):=by
  induction n with
  |zero=>
    intro lo hi h0 h1 h2 h3 h4
    obtain rfl:lo=hi:=by omega
    refine Ev.step (fun k=> by apply api_KV_58.l0.eq_2) (ev_ifn (Int.lt_irrefl _) ?_)
    rw [split1 lo hs h3 h4]
    have hk:=shr (P:=P) (D:=B.drop lo ++ Q) (x:=x) (B.take lo) [] (by simp;omega)
    have g1:((P.length + ([]:List KV).length + (B.take lo).length + 1:Nat):Int)=((P.length + 1 + lo:Nat):Int):=by rw [List.length_take];simp;omega
    have g2:P ++ ([] ++ x :: (B.take lo ++ (B.drop lo ++ Q)))=P ++ (x :: (B ++ Q)):=by rw [←List.append_assoc (B.take lo),List.take_append_drop];rfl
    rw [g1,g2] at hk
    simpa using hk
  |succ n ih=>
    intro lo hi h0 h1 h2 h3 h4
    by_cases c:lo=hi
    · exact ih lo hi (by omega) h1 h2 h3 h4
    obtain⟨m,hm⟩:∃m,m=(P.length + 1 + lo + (P.length + 1 + hi)) / 2 - (P.length + 1):=⟨_,rfl⟩
    have m1:lo≤m∧m < hi:=by omega
    have em:((((P.length + 1 + lo:Nat):Int) + ((P.length + 1 + hi:Nat):Int)) / 2)=((P.length + 1 + m:Nat):Int):=by omega
    have eh:=Aside0.mk (show wrap64 ((IntKind.u64.wrap (wrap64 (((P.length + 1 + lo:Nat):Int) + ((P.length + 1 + hi:Nat):Int)))) / 2)=((P.length + 1 + m:Nat):Int) from(hf (by omega) (by omega) (by omega) (by omega)).trans em)
    have en:=Aside0.mk (show wrap64 (((P.length + 1 + m:Nat):Int) + 1)=((P.length + 1 + (m + 1):Nat):Int) from smE (by omega) (by omega) (by omega))
    have hmB:m < B.length:=by omega
    have r1:rd_T49 (P ++ (x :: (B ++ Q))) ((P.length + 1 + m:Nat):Int)=B[m]:=by
      have:=rdB (P:=P ++ [x]) (Q:=Q) (B:=B) hmB (j:=((P.length + 1 + m:Nat):Int)) (by simp)
      rwa [show P ++ [x] ++ (B ++ Q)=P ++ (x :: (B ++ Q)) by simp] at this
    have r2:rd_T49 (P ++ (x :: (B ++ Q))) (P.length:Int)=x:=rdA _ _ _ rfl
    have ll:((P ++ (x :: (B ++ Q))).length:Int)=((P.length + 1 + B.length + Q.length:Nat):Int):=by simp;omega
    have k1:=ih (m + 1) hi (by omega) (by omega) h2
    have k2:=ih lo m (by omega) (by omega) (by omega) h3
    refine Ev.step (fun k=> by apply api_KV_58.l0.eq_2) (ev_if (by omega) ?_)
    rw [eh.out,en.out]
    generalize P ++ (x :: (B ++ Q))=L at ll r1 r2 k1 k2⊢
    clear em eh en hm
    refine ev_if (by omega) (ev_if (by omega) (ev_if (by omega) (ev_if (by omega) ?_)))
    rw [r1,r2]
    refine ev_c (cmp_f B[m] x) ?_
    by_cases c2:cmpL B[m] x < 0
    · have cb:bf B[m] x=true:=decide_eq_true c2
      refine ev_if c2 (k1 ?_ h4)
      intro h hh hlt
      by_cases e:h=m
      · subst e;exact cb
      · exact sw.lt_of' (srt_le hs (show h < m by omega) hmB) cb
    · have cb:¬bf B[m] x=true:=by unfold bf;simpa using c2
      refine ev_ifn c2 (k2 ?_)
      intro h hh hle q
      by_cases e:h=m
      · subst e;exact cb q
      · exact cb (sw.lt_of' (srt_le hs (show m < h by omega) hh) q)
theorem split2 {y:KV} {A:List KV} (s:Nat) (h1:∀h (hh:h < A.length),h < s→¬bf y A[h]=true) (h2:∀h (hh:h < A.length),s≤h→bf y A[h]=true):mrg bf A [y]=A.take s ++ y :: A.drop s:=by
  have e:mrg bf (A.take s ++ A.drop s) [y]=A.take s ++ ins bf y (A.drop s):=by
    rw [mrg_cons,mrg_nil]
    refine ins_behind ?_
    intro z hz
    obtain⟨i,hi,rfl⟩:=List.getElem_of_mem hz
    rw [List.length_take] at hi
    rw [List.getElem_take]
    exact h1 i (by omega) (by omega)
  rw [List.take_append_drop] at e
  rw [e]
  cases hd:A.drop s with
  |nil=> rfl
  |cons z l=>
    rw [ins_cons,if_pos]
    have hl:s < A.length:=by
      apply Decidable.byContradiction
      intro q
      rw [List.drop_of_length_le (by omega)] at hd
      cases hd
    have:=h2 s hl (Nat.le_refl _)
    rw [List.drop_eq_getElem_cons hl] at hd
    injection hd with e1 e2
    rw [←e1]
    exact this
theorem one_l2 {P Q A:List KV} {y:KV} (hs:srt bf A) (hl:P.length + A.length + Q.length≤1500) (n:Nat):∀lo hi:Nat,hi - lo≤n→lo≤hi→hi≤A.length→
    (∀h (hh:h < A.length),h < lo→¬bf y A[h]=true)→(∀h (hh:h < A.length),hi≤h→bf y A[h]=true)→
    Ev (fun k=> api_KV_58.l2 k (P ++ (A ++ y :: Q)) ((P.length + A.length:Nat):Int) ((P.length + lo:Nat):Int) ((P.length + hi:Nat):Int)) (P ++ (mrg bf A [y] ++ Q)):=by
  induction n with
  |zero=>
    intro lo hi h0 h1 h2 h3 h4
    obtain rfl:lo=hi:=by omega
    refine Ev.step (fun k=> by apply api_KV_58.l2.eq_2) (ev_ifn (Int.lt_irrefl _) ?_)
    rw [split2 lo h3 h4]
    have hk:=shl (P:=P) (y:=y) (A.drop lo).length (A.drop lo) (A.take lo) Q rfl (by simp;omega)
    have g1:((P.length + (A.take lo).length + (A.drop lo).length:Nat):Int)=((P.length + A.length:Nat):Int):=by rw [List.length_take,List.length_drop];omega
    have g2:((P.length + (A.take lo).length:Nat):Int)=((P.length + lo:Nat):Int):=by rw [List.length_take];omega
    have g3:P ++ (A.take lo ++ (A.drop lo ++ y :: Q))=P ++ (A ++ y :: Q):=by rw [←List.append_assoc (A.take lo),List.take_append_drop]
    rw [g1,g2,g3] at hk
    simpa using hk
  |succ n ih=>
    intro lo hi h0 h1 h2 h3 h4
    by_cases c:lo=hi
    · exact ih lo hi (by omega) h1 h2 h3 h4
    obtain⟨m,hm⟩:∃m,m=(P.length + lo + (P.length + hi)) / 2 - P.length:=⟨_,rfl⟩
    have m1:lo≤m∧m < hi:=by omega
    have em:((((P.length + lo:Nat):Int) + ((P.length + hi:Nat):Int)) / 2)=((P.length + m:Nat):Int):=by omega
    have eh:=Aside0.mk (show wrap64 ((IntKind.u64.wrap (wrap64 (((P.length + lo:Nat):Int) + ((P.length + hi:Nat):Int)))) / 2)=((P.length + m:Nat):Int) from(hf (by omega) (by omega) (by omega) (by omega)).trans em)
    have en:=Aside0.mk (show wrap64 (((P.length + m:Nat):Int) + 1)=((P.length + (m + 1):Nat):Int) from smE (by omega) (by omega) (by omega))
    have hmB:m < A.length:=by omega
    have r1:rd_T49 (P ++ (A ++ y :: Q)) ((P.length + m:Nat):Int)=A[m]:=rdB hmB rfl
    have r2:rd_T49 (P ++ (A ++ y :: Q)) ((P.length + A.length:Nat):Int)=y:=by
      have:=rdA (P ++ A) y Q (i:=((P.length + A.length:Nat):Int)) (by simp)
      rwa [List.append_assoc] at this
    have ll:((P ++ (A ++ y :: Q)).length:Int)=((P.length + A.length + 1 + Q.length:Nat):Int):=by simp;omega
    have k1:=ih (m + 1) hi (by omega) (by omega) h2
    have k2:=ih lo m (by omega) (by omega) (by omega) h3
    refine Ev.step (fun k=> by apply api_KV_58.l2.eq_2) (ev_if (by omega) ?_)
    rw [eh.out,en.out]
    generalize P ++ (A ++ y :: Q)=L at ll r1 r2 k1 k2⊢
    clear em eh en hm
    refine ev_if (by omega) (ev_if (by omega) (ev_if (by omega) (ev_if (by omega) ?_)))
    rw [r1,r2]
    refine ev_c (cmp_f y A[m]) ?_
    by_cases c2:cmpL y A[m] < 0
    · have cb:bf y A[m]=true:=decide_eq_true c2
      refine ev_if c2 (k2 ?_)
      intro h hh hle
      by_cases e:h=m
      · subst e;exact cb
      · exact sw.lt_of cb (srt_le hs (show m < h by omega) hh)
    · have cb:¬bf y A[m]=true:=by unfold bf;simpa using c2
      refine ev_ifn c2 (k1 ?_ h4)
      intro h hh hlt
      by_cases e:h=m
      · subst e;exact cb
      · exact sw.tie y A[m] A[h] cb (srt_le hs (show h < m by omega) hmB)
def H1 (t:Nat) (A B:List KV) (s:Nat):Prop:=∀y∈B.drop (t - s),∀x∈A.take s,¬bf y x=true
def H2 (t:Nat) (A B:List KV) (s:Nat):Prop:=∀y∈B.take (t - s),∀x∈A.drop s,bf y x=true
theorem H1_at {t u:Nat} {A B:List KV} (ha:srt bf A) (hb:srt bf B) (hu:u < A.length) (ht:u < t) (hB:t - 1 - u < B.length) (h:¬bf B[t - 1 - u] A[u]=true):H1 t A B (u + 1):=by
  intro y hy x hx
  obtain⟨i,hi,rfl⟩:=List.getElem_of_mem hy
  obtain⟨j,hj,rfl⟩:=List.getElem_of_mem hx
  rw [List.length_drop] at hi
  rw [List.length_take] at hj
  rw [List.getElem_drop,List.getElem_take]
  have e1:¬bf (B[t - (u + 1) + i]'(by omega)) A[u]=true:=by
    by_cases c:i=0
    · subst c
      have e:t - (u + 1) + 0=t - 1 - u:=by omega
      simp only [e]
      exact h
    · exact sw.tie _ _ _ (srt_le hb (show t - 1 - u < t - (u + 1) + i by omega) (by omega)) h
  by_cases c:j=u
  · subst c;exact e1
  · exact sw.tie _ _ _ e1 (srt_le ha (show j < u by omega) hu)
theorem H2_at {t u:Nat} {A B:List KV} (ha:srt bf A) (hb:srt bf B) (hu:u < A.length) (ht:u < t) (hB:t - 1 - u < B.length) (h:bf B[t - 1 - u] A[u]=true):H2 t A B u:=by
  intro y hy x hx
  obtain⟨i,hi,rfl⟩:=List.getElem_of_mem hy
  obtain⟨j,hj,rfl⟩:=List.getElem_of_mem hx
  rw [List.length_take] at hi
  rw [List.length_drop] at hj
  rw [List.getElem_drop,List.getElem_take]
  have e1:bf (B[i]'(by omega)) A[u]=true:=by
    by_cases c:i=t - 1 - u
    · subst c;exact h
    · exact sw.lt_of' (srt_le hb (show i < t - 1 - u by omega) hB) h
  by_cases c:j=0
  · subst c;simpa using e1
  · exact sw.lt_of e1 (srt_le ha (show u < u + j by omega) (by omega))
theorem mrg_cut {t s:Nat} {A B:List KV} (hb:srt bf B) (h1:H1 t A B s) (h2:H2 t A B s):mrg bf A B=mrg bf (A.take s) (B.take (t - s)) ++ mrg bf (A.drop s) (B.drop (t - s)):=by
  have hp:=mrg_parts (lt:=bf) (a1:=A.take s) (a2:=A.drop s) (b1:=B.take (t - s)) (b2:=B.drop (t - s)) h1 h2 (by
    intro y hy z hz
    obtain⟨i,hi,rfl⟩:=List.getElem_of_mem hy
    obtain⟨j,hj,rfl⟩:=List.getElem_of_mem hz
    rw [List.length_drop] at hi
    rw [List.length_take] at hj
    rw [List.getElem_drop,List.getElem_take]
    exact srt_le hb (by omega) (by omega))
  rwa [List.take_append_drop,List.take_append_drop] at hp
theorem sym_l4 {P Q A B R:List KV} {t:Nat} {b x18:Int} (ha:srt bf A) (hb:srt bf B) (hl:P.length + A.length + B.length + Q.length≤1500) (ht:t≤A.length + B.length)
    (hend:∀s:Nat,s≤A.length→s≤t→t≤s + B.length→H1 t A B s→H2 t A B s→Ev (fun k=> if ((P.length + s:Nat):Int) < ((P.length + A.length:Nat):Int) then (api_KV_58.j6 k (P ++ (A ++ (B ++ Q))) (P.length:Int) ((P.length + A.length:Nat):Int) b () x18 ((P.length + s:Nat):Int) ((P.length + A.length + (t - s):Nat):Int) (decide (((P.length + A.length:Nat):Int) < ((P.length + A.length + (t - s):Nat):Int)))) else (api_KV_58.j6 k (P ++ (A ++ (B ++ Q))) (P.length:Int) ((P.length + A.length:Nat):Int) b () x18 ((P.length + s:Nat):Int) ((P.length + A.length + (t - s):Nat):Int) false)) R) (n:Nat):
    ∀lo hi:Nat,hi - lo≤n→lo≤hi→hi≤A.length→hi≤t→t≤lo + B.length→H1 t A B lo→H2 t A B hi→
    Ev (fun k=> api_KV_58.l4 k (P ++ (A ++ (B ++ Q))) (P.length:Int) ((P.length + A.length:Nat):Int) b () x18 ((P.length + t + (P.length + A.length):Nat):Int) ((P.length + lo:Nat):Int) ((P.length + hi:Nat):Int) (((P.length + t + (P.length + A.length):Nat):Int) - 1)) R:=by
  induction n with
  |zero=>
    intro lo hi h0 h1 h2 h3 h4 h5 h6
    obtain rfl:lo=hi:=by omega
    have e:=Aside0.mk (show wrap64 (((P.length + t + (P.length + A.length):Nat):Int) - ((P.length + lo:Nat):Int))=((P.length + A.length + (t - lo):Nat):Int) from smE (by omega) (by omega) (by omega))
    refine Ev.step (fun k=> by apply api_KV_58.l4.eq_2) (ev_ifn (Int.lt_irrefl _) ?_)
    rw [e.out]
    exact hend lo h2 h3 h4 h5 h6
  |succ n ih=>
    intro lo hi h0 h1 h2 h3 h4 h5 h6
    by_cases c:lo=hi
    · exact ih lo hi (by omega) h1 h2 h3 h4 h5 h6
    obtain⟨m,hm⟩:∃m,m=(P.length + lo + (P.length + hi)) / 2 - P.length:=⟨_,rfl⟩
    have m1:lo≤m∧m < hi:=by omega
    have em:((((P.length + lo:Nat):Int) + ((P.length + hi:Nat):Int)) / 2)=((P.length + m:Nat):Int):=by omega
    have eh:=Aside0.mk (show wrap64 ((IntKind.u64.wrap (wrap64 (((P.length + lo:Nat):Int) + ((P.length + hi:Nat):Int)))) / 2)=((P.length + m:Nat):Int) from(hf (by omega) (by omega) (by omega) (by omega)).trans em)
    have en:=Aside0.mk (show wrap64 (((P.length + m:Nat):Int) + 1)=((P.length + (m + 1):Nat):Int) from smE (by omega) (by omega) (by omega))
    have ep:=Aside0.mk (show wrap64 (((P.length + t + (P.length + A.length):Nat):Int) - 1 - ((P.length + m:Nat):Int))=((P.length + A.length + (t - 1 - m):Nat):Int) from smE (by omega) (by omega) (by omega))
    have hmA:m < A.length:=by omega
    have hmB:t - 1 - m < B.length:=by omega
    have r1:rd_T49 (P ++ (A ++ (B ++ Q))) ((P.length + m:Nat):Int)=A[m]:=rdB hmA rfl
    have r2:rd_T49 (P ++ (A ++ (B ++ Q))) ((P.length + A.length + (t - 1 - m):Nat):Int)=B[t - 1 - m]:=by
      have:=rdB (P:=P ++ A) (Q:=Q) hmB (j:=((P.length + A.length + (t - 1 - m):Nat):Int)) (by simp)
      rwa [List.append_assoc] at this
    have ll:((P ++ (A ++ (B ++ Q))).length:Int)=((P.length + A.length + B.length + Q.length:Nat):Int):=by simp;omega
    have k1:=ih (m + 1) hi (by omega) (by omega) h2 h3 (by omega)
    have k2:=ih lo m (by omega) (by omega) (by omega) (by omega) h4 h5
    refine Ev.step (fun k=> by apply api_KV_58.l4.eq_2) (ev_if (by omega) ?_)
    rw [eh.out,en.out,ep.out]
    clear hend ih
    generalize P ++ (A ++ (B ++ Q))=L at ll r1 r2 k1 k2⊢
    clear em eh en ep hm
    refine ev_if (by omega) (ev_if (by omega) (ev_if (by omega) (ev_if (by omega) ?_)))
    rw [r1,r2]
    refine ev_c (cmp_f B[t - 1 - m] A[m]) ?_
    by_cases c2:cmpL B[t - 1 - m] A[m] < 0
    · exact ev_if c2 (k2 (H2_at ha hb hmA (by omega) hmB (decide_eq_true c2)))
    · exact ev_ifn c2 (k1 (H1_at ha hb hmA (by omega) hmB (by unfold bf;simpa using c2)) h6)
theorem sym_f (n:Nat):∀(P A B Q:List KV),A.length + B.length≤n→A≠ []→B≠ []→srt bf A→srt bf B→P.length + A.length + B.length + Q.length≤1500→
    Ev (fun k=> api_KV_58.f k (P ++ (A ++ (B ++ Q))) (P.length:Int) ((P.length + A.length:Nat):Int) ((P.length + A.length + B.length:Nat):Int) ()) (P ++ (mrg bf A B ++ Q)):=by
  induction n with
  |zero=>
    intro P A B Q h ha
    exact absurd (List.length_eq_zero_iff.1 (by omega)) ha
  |succ n ih=>
    intro P A B Q h ha hb sa sb hl
    have la:=List.length_pos_iff.2 ha
    have lb:=List.length_pos_iff.2 hb
    have e1:=Aside0.mk (show wrap64 (((P.length + A.length:Nat):Int) - (P.length:Int))=(A.length:Int) from smE (by omega) (by omega) (by omega))
    have e2:=Aside0.mk (show wrap64 (((P.length + A.length + B.length:Nat):Int) - ((P.length + A.length:Nat):Int))=(B.length:Int) from smE (by omega) (by omega) (by omega))
    refine Ev.step (fun k=> by apply api_KV_58.f.eq_2) ?_
    rw [e1.out,e2.out]
    by_cases c1:(A.length:Int)=1
    · refine ev_if c1 ?_
      obtain⟨x,rfl⟩:=List.length_eq_one_iff.1 (show A.length=1 by omega)
      have:=one_l0 (P:=P) (Q:=Q) (B:=B) (x:=x) sb (by simp at hl;omega) B.length 0 B.length (by omega) (by omega) (by omega) (by omega) (by omega)
      simpa using this
    refine ev_ifn c1 ?_
    by_cases c2:(B.length:Int)=1
    · refine ev_if c2 ?_
      obtain⟨y,rfl⟩:=List.length_eq_one_iff.1 (show B.length=1 by omega)
      have:=one_l2 (P:=P) (Q:=Q) (A:=A) (y:=y) sa (by simp at hl;omega) A.length 0 A.length (by omega) (by omega) (by omega) (by omega) (by omega)
      simpa using this
    refine ev_ifn c2 ?_
    obtain⟨t,ht⟩:∃t,t=(A.length + B.length) / 2:=⟨_,rfl⟩
    have em:(((P.length:Int) + ((P.length + A.length + B.length:Nat):Int)) / 2)=((P.length + t:Nat):Int):=by omega
    have eh:=Aside0.mk (show wrap64 ((IntKind.u64.wrap (wrap64 ((P.length:Int) + ((P.length + A.length + B.length:Nat):Int)))) / 2)=((P.length + t:Nat):Int) from(hf (by omega) (by omega) (by omega) (by omega)).trans em)
    have en:=Aside0.mk (show wrap64 (((P.length + t:Nat):Int) + ((P.length + A.length:Nat):Int))=((P.length + t + (P.length + A.length):Nat):Int) from smE (by omega) (by omega) (by omega))
    have ep:=Aside0.mk (show wrap64 (((P.length + t + (P.length + A.length):Nat):Int) - 1)=((P.length + t + (P.length + A.length):Nat):Int) - 1 from sm (by omega) (by omega))
    have hend:∀s:Nat,s≤A.length→s≤t→t≤s + B.length→H1 t A B s→H2 t A B s→Ev (fun k=> if ((P.length + s:Nat):Int) < ((P.length + A.length:Nat):Int) then (api_KV_58.j6 k (P ++ (A ++ (B ++ Q))) (P.length:Int) ((P.length + A.length:Nat):Int) ((P.length + A.length + B.length:Nat):Int) () ((P.length + t:Nat):Int) ((P.length + s:Nat):Int) ((P.length + A.length + (t - s):Nat):Int) (decide (((P.length + A.length:Nat):Int) < ((P.length + A.length + (t - s):Nat):Int)))) else (api_KV_58.j6 k (P ++ (A ++ (B ++ Q))) (P.length:Int) ((P.length + A.length:Nat):Int) ((P.length + A.length + B.length:Nat):Int) () ((P.length + t:Nat):Int) ((P.length + s:Nat):Int) ((P.length + A.length + (t - s):Nat):Int) false)) (P ++ (mrg bf A B ++ Q)):=by
      intro s s1 s2 s3 hh1 hh2
      have hcut:=mrg_cut sb hh1 hh2
      obtain⟨A1,hA1⟩:∃l,l=A.take s:=⟨_,rfl⟩
      obtain⟨A2,hA2⟩:∃l,l=A.drop s:=⟨_,rfl⟩
      obtain⟨B1,hB1⟩:∃l,l=B.take (t - s):=⟨_,rfl⟩
      obtain⟨B2,hB2⟩:∃l,l=B.drop (t - s):=⟨_,rfl⟩
      have a1:A1.length=s:=by rw [hA1,List.length_take];omega
      have a2:A2.length=A.length - s:=by rw [hA2,List.length_drop]
      have b1:B1.length=t - s:=by rw [hB1,List.length_take];omega
      have b2:B2.length=B.length - (t - s):=by rw [hB2,List.length_drop]
      have sA1:srt bf A1:=by rw [hA1];exact sa.sublist (List.take_sublist _ _)
      have sA2:srt bf A2:=by rw [hA2];exact sa.sublist (List.drop_sublist _ _)
      have sB1:srt bf B1:=by rw [hB1];exact sb.sublist (List.take_sublist _ _)
      have sB2:srt bf B2:=by rw [hB2];exact sb.sublist (List.drop_sublist _ _)
      have eA:A=A1 ++ A2:=by rw [hA1,hA2,List.take_append_drop]
      have eB:B=B1 ++ B2:=by rw [hB1,hB2,List.take_append_drop]
      rw [←hA1,←hA2,←hB1,←hB2] at hcut
      have harr:P ++ (A ++ (B ++ Q))=(P ++ A1) ++ (A2 ++ (B1 ++ (B2 ++ Q))):=by rw [eA,eB];simp
      have hl2:P.length + s + (A.length - s) + (t - s) + (B.length - (t - s)) + Q.length≤1500:=by omega
      have hx:(mrg bf A1 B1).length=t:=by rw [mrg_len,a1,b1];omega
      have last:Ev (fun k=> if ((P.length + t:Nat):Int) < ((P.length + A.length + (t - s):Nat):Int) then (if ((P.length + A.length + (t - s):Nat):Int) < ((P.length + A.length + B.length:Nat):Int) then ((api_KV_58.f k (P ++ (mrg bf A1 B1 ++ (A2 ++ (B2 ++ Q)))) ((P.length + t:Nat):Int) ((P.length + A.length + (t - s):Nat):Int) ((P.length + A.length + B.length:Nat):Int) ()).bind fun q=> some q) else some (P ++ (mrg bf A1 B1 ++ (A2 ++ (B2 ++ Q))))) else some (P ++ (mrg bf A1 B1 ++ (A2 ++ (B2 ++ Q))))) (P ++ (mrg bf A B ++ Q)):=by
        rw [hcut]
        by_cases q1:((P.length + t:Nat):Int) < ((P.length + A.length + (t - s):Nat):Int)
        · refine ev_if q1 ?_
          have n2:A2≠ []:=by rintro rfl;simp at a2;omega
          by_cases q2:((P.length + A.length + (t - s):Nat):Int) < ((P.length + A.length + B.length:Nat):Int)
          · refine ev_if q2 ?_
            have n3:B2≠ []:=by rintro rfl;simp at b2;omega
            have hk:=ih (P ++ mrg bf A1 B1) A2 B2 Q (by omega) n2 n3 sA2 sB2 (by rw [List.length_append,hx];omega)
            have g1:(P ++ mrg bf A1 B1).length=P.length + t:=by rw [List.length_append,hx]
            have g2:P.length + t + A2.length=P.length + A.length + (t - s):=by omega
            have g3:P.length + A.length + (t - s) + B2.length=P.length + A.length + B.length:=by omega
            rw [g1,g2,g3,List.append_assoc,List.append_assoc] at hk
            refine ev_b hk (ev_now ?_)
            simp
          · refine ev_ifn q2 (ev_now ?_)
            obtain rfl:B2= []:=List.length_eq_zero_iff.1 (by omega)
            simp [mrg_nil]
        · refine ev_ifn q1 (ev_now ?_)
          obtain rfl:A2= []:=List.length_eq_zero_iff.1 (by omega)
          rw [mrg_nil' sB2]
          simp
      have h7:Ev (fun k=> api_KV_58.j7 k (P ++ (A1 ++ (B1 ++ (A2 ++ (B2 ++ Q))))) (P.length:Int) ((P.length + A.length + B.length:Nat):Int) () ((P.length + t:Nat):Int) ((P.length + s:Nat):Int) ((P.length + A.length + (t - s):Nat):Int)) (P ++ (mrg bf A B ++ Q)):=by
        have h8:A1= []∨B1= []→Ev (fun k=> api_KV_58.j8 k (P ++ (A1 ++ (B1 ++ (A2 ++ (B2 ++ Q))))) (P.length:Int) ((P.length + A.length + B.length:Nat):Int) () ((P.length + t:Nat):Int) ((P.length + s:Nat):Int) ((P.length + A.length + (t - s):Nat):Int) false) (P ++ (mrg bf A B ++ Q)):=by
          intro hz
          have g:P ++ (A1 ++ (B1 ++ (A2 ++ (B2 ++ Q))))=P ++ (mrg bf A1 B1 ++ (A2 ++ (B2 ++ Q))):=by
            rcases hz with rfl|rfl
            · rw [mrg_nil' sB1];simp
            · rw [mrg_nil];simp
          rw [g]
          exact Ev.step (fun k=> by apply api_KV_58.j8.eq_2) (ev_ifn (by decide) last)
        refine Ev.step (fun k=> by apply api_KV_58.j7.eq_2) ?_
        by_cases q1:(P.length:Int) < ((P.length + s:Nat):Int)
        · refine ev_if q1 ?_
          by_cases q2:((P.length + s:Nat):Int) < ((P.length + t:Nat):Int)
          · rw [decide_eq_true q2]
            have n1:A1≠ []:=by rintro rfl;simp at a1;omega
            have n2:B1≠ []:=by rintro rfl;simp at b1;omega
            have hk:=ih P A1 B1 (A2 ++ (B2 ++ Q)) (by omega) n1 n2 sA1 sB1 (by simp;omega)
            have g2:P.length + A1.length=P.length + s:=by omega
            have g3:P.length + s + B1.length=P.length + t:=by omega
            rw [g2,g3] at hk
            exact Ev.step (fun k=> by apply api_KV_58.j8.eq_2) (ev_if rfl (ev_b hk last))
          · rw [decide_eq_false q2]
            exact h8 (.inr (List.length_eq_zero_iff.1 (by omega)))
        · exact ev_ifn q1 (h8 (.inl (List.length_eq_zero_iff.1 (by omega))))
      have h6:A2= []∨B1= []→Ev (fun k=> api_KV_58.j6 k (P ++ (A ++ (B ++ Q))) (P.length:Int) ((P.length + A.length:Nat):Int) ((P.length + A.length + B.length:Nat):Int) () ((P.length + t:Nat):Int) ((P.length + s:Nat):Int) ((P.length + A.length + (t - s):Nat):Int) false) (P ++ (mrg bf A B ++ Q)):=by
        intro hz
        have g:P ++ (A ++ (B ++ Q))=P ++ (A1 ++ (B1 ++ (A2 ++ (B2 ++ Q)))):=by
          rw [harr]
          rcases hz with rfl|rfl <;> simp
        rw [g]
        exact Ev.step (fun k=> by apply api_KV_58.j6.eq_2) (ev_ifn (by decide) h7)
      by_cases q1:((P.length + s:Nat):Int) < ((P.length + A.length:Nat):Int)
      · refine ev_if q1 ?_
        by_cases q2:((P.length + A.length:Nat):Int) < ((P.length + A.length + (t - s):Nat):Int)
        · rw [decide_eq_true q2]
          have n1:A2≠ []:=by rintro rfl;simp at a2;omega
          have n2:B1≠ []:=by rintro rfl;simp at b1;omega
          have hk:=rot_f (P ++ A1) A2 B1 (B2 ++ Q) n1 n2 (by simp;omega)
          have g1:(P ++ A1).length=P.length + s:=by rw [List.length_append];omega
          have g2:P.length + s + A2.length=P.length + A.length:=by omega
          have g3:P.length + A.length + B1.length=P.length + A.length + (t - s):=by omega
          rw [g1,g2,g3,←harr,List.append_assoc] at hk
          exact Ev.step (fun k=> by apply api_KV_58.j6.eq_2) (ev_if rfl (ev_b hk h7))
        · rw [decide_eq_false q2]
          exact h6 (.inr (List.length_eq_zero_iff.1 (by omega)))
      · exact ev_ifn q1 (h6 (.inl (List.length_eq_zero_iff.1 (by omega))))
    rw [eh.out,en.out]
    by_cases c3:((P.length + A.length:Nat):Int) > ((P.length + t:Nat):Int)
    · have e4:=Aside0.mk (show wrap64 (((P.length + t + (P.length + A.length):Nat):Int) - ((P.length + A.length + B.length:Nat):Int))=((P.length + (t - B.length):Nat):Int) from smE (by omega) (by omega) (by omega))
      rw [e4.out]
      refine ev_if c3 (Ev.step (fun k=> by apply api_KV_58.j4.eq_2) ?_)
      rw [ep.out]
      refine sym_l4 sa sb (by omega) (by omega) hend t (t - B.length) t (by omega) (by omega) (by omega) (by omega) (by omega) ?_ ?_
      · intro y hy
        rw [List.drop_of_length_le (by omega)] at hy
        cases hy
      · intro y hy
        rw [Nat.sub_self,List.take_zero] at hy
        cases hy
    · refine ev_ifn c3 (Ev.step (fun k=> by apply api_KV_58.j4.eq_2) ?_)
      rw [ep.out]
      have:=sym_l4 (P:=P) (Q:=Q) sa sb (by omega) (by omega) hend A.length 0 A.length (by omega) (by omega) (by omega) (by omega) (by omega) (by intro y hy x hx;rw [List.take_zero] at hx;cases hx) (by intro y hy x hx;rw [List.drop_of_length_le (Nat.le_refl _)] at hx;cases hx)
      exact this
def chk (m:Nat):Nat→List KV→List KV
  |0,l=> tsort bf l
  |f + 1,l=> if l.length≤m then tsort bf l else tsort bf (l.take m) ++ chk m f (l.drop m)
theorem chk_small {m f:Nat} {l:List KV} (h:l.length≤m):chk m f l=tsort bf l:=by
  cases f with
  |zero=> rfl
  |succ f=> exact if_pos h
theorem chk_len (m:Nat):∀(f:Nat) (l:List KV),(chk m f l).length=l.length
  |0,l=> tsort_len l
  |f + 1,l=> by
    unfold chk
    split
    · exact tsort_len l
    · rw [List.length_append,tsort_len,chk_len m f,List.length_take,List.length_drop];omega
theorem blocks (n:Nat) (hn:n≤1000) {R:List KV} (f:Nat):∀(P S:List KV),S.length≤f→P.length + S.length=n→Ev (fun k=> api_KV_54.l1 k (P ++ chk 20 f S) (n:Int) () 20) R→Ev (fun k=> api_KV_54.l0 k (P ++ S) (n:Int) () 20 (P.length:Int) ((P.length + 20:Nat):Int)) R:=by
  induction f with
  |zero=>
    intro P S hf hl hR
    obtain rfl:=List.length_eq_zero_iff.1 (show S.length=0 by omega)
    refine Ev.step (fun k=> by apply api_KV_54.l0.eq_2) (ev_ifn (by omega) ?_)
    have hi:=ins_f P [] [] (by simp;omega)
    rw [chk_small (by simp)] at hR
    simp only [List.append_nil,List.length_nil,Nat.add_zero] at hi hR
    rw [show(n:Int)=((P.length:Nat):Int) by simp at hl;omega] at hR⊢
    simp only [List.append_nil]
    exact ev_b hi hR
  |succ f ih=>
    intro P S hf hl hR
    by_cases c:S.length < 20
    · refine Ev.step (fun k=> by apply api_KV_54.l0.eq_2) (ev_ifn (by omega) ?_)
      have hi:=ins_f P S [] (by simp;omega)
      rw [chk_small (by omega)] at hR
      simp only [List.append_nil] at hi
      rw [hl] at hi
      exact ev_b hi hR
    · refine Ev.step (fun k=> by apply api_KV_54.l0.eq_2) (ev_if (by omega) ?_)
      have hi:=ins_f P (S.take 20) (S.drop 20) (by simp;omega)
      rw [List.take_append_drop,List.length_take,Nat.min_eq_left (by omega)] at hi
      refine ev_b hi ?_
      have e:=Aside0.mk (show wrap64 (((P.length + 20:Nat):Int) + 20)=((P.length + 20 + 20:Nat):Int) from smE (by omega) (by omega) (by omega))
      rw [e.out]
      have hp:(P ++ tsort bf (S.take 20)).length=P.length + 20:=by rw [List.length_append,tsort_len,List.length_take];omega
      have hk:=ih (P ++ tsort bf (S.take 20)) (S.drop 20) (by rw [List.length_drop];omega) (by rw [hp,List.length_drop];omega) (by
        by_cases c2:S.length≤20
        · rw [chk_small c2] at hR
          have z:S.drop 20= []:=List.drop_of_length_le c2
          have z2:S.take 20=S:=List.take_of_length_le c2
          rw [z,z2,chk_small (by simp)]
          simpa [tsort,mrg_nil] using hR
        · rw [show chk 20 (f + 1) S=tsort bf (S.take 20) ++ chk 20 f (S.drop 20) from if_neg c2,←List.append_assoc] at hR
          exact hR)
      rw [hp,List.append_assoc] at hk
      exact hk
theorem chk_fuel {m:Nat} (hm:1≤m):∀(f g:Nat) (l:List KV),l.length≤f→l.length≤g→chk m f l=chk m g l
  |0,g,l,h,_=> by
    rw [chk_small (show l.length≤m by omega),chk_small (show l.length≤m by omega)]
  |f + 1,0,l,_,h=> by
    rw [chk_small (show l.length≤m by omega),chk_small (show l.length≤m by omega)]
  |f + 1,g + 1,l,h1,h2=> by
    unfold chk
    split
    · rfl
    · rw [chk_fuel hm f g (l.drop m) (by rw [List.length_drop];omega) (by rw [List.length_drop];omega)]
def chs (m:Nat) (l:List KV):List KV:=chk m l.length l
theorem chs_cons {m:Nat} (hm:1≤m) {l:List KV} (h:m≤l.length):chs m l=tsort bf (l.take m) ++ chs m (l.drop m):=by
  unfold chs
  by_cases c:l.length≤m
  · rw [chk_small c,List.drop_of_length_le c,List.take_of_length_le c]
    simp [chk,tsort,mrg_nil]
  · rw [chk_fuel hm l.length (l.length - 1 + 1) l (Nat.le_refl _) (by omega),show chk m (l.length - 1 + 1) l=tsort bf (l.take m) ++ chk m (l.length - 1) (l.drop m) from if_neg c,chk_fuel hm (l.length - 1) (l.drop m).length (l.drop m) (by rw [List.length_drop];omega) (Nat.le_refl _)]
theorem chs_small {m:Nat} {l:List KV} (h:l.length≤m):chs m l=tsort bf l:=chk_small h
theorem chs_len (m:Nat) (l:List KV):(chs m l).length=l.length:=chk_len m _ l
theorem two {m:Nat} {S:List KV} (h1:m≤S.length):mrg bf (tsort bf (S.take m)) (tsort bf (S.drop m))=tsort bf S:=by
  rw [tsort_append sw,List.take_append_drop]
theorem pass {n m:Nat} (hn:n≤1000) (hm:1≤m) (hm2:m≤1000) {R:List KV} (f:Nat):∀(P S:List KV),S.length≤f→P.length + S.length=n→Ev (fun k=> api_KV_54.l1 k (P ++ chs (2 * m) S) (n:Int) () ((2 * m:Nat):Int)) R→
    Ev (fun k=> api_KV_54.l2 k (P ++ chs m S) (n:Int) () (m:Int) (P.length:Int) ((P.length + 2 * m:Nat):Int)) R:=by
  induction f with
  |zero=>
    intro P S hf hl hR
    have e1:=Aside0.mk (show wrap64 ((P.length:Int) + (m:Int))=((P.length + m:Nat):Int) from smE (by omega) (by omega) (by omega))
    have e2:=Aside0.mk (show wrap64 ((m:Int) * 2)=((2 * m:Nat):Int) from smE (by omega) (by omega) (by omega))
    refine Ev.step (fun k=> by apply api_KV_54.l2.eq_2) (ev_ifn (by omega) ?_)
    rw [e1.out,e2.out]
    refine ev_ifn (by omega) ?_
    rw [chs_small (by omega)] at hR⊢
    exact hR
  |succ f ih=>
    intro P S hf hl hR
    have e1:=Aside0.mk (show wrap64 ((P.length:Int) + (m:Int))=((P.length + m:Nat):Int) from smE (by omega) (by omega) (by omega))
    have e2:=Aside0.mk (show wrap64 ((m:Int) * 2)=((2 * m:Nat):Int) from smE (by omega) (by omega) (by omega))
    have e3:=Aside0.mk (show wrap64 (2 * (m:Int))=((2 * m:Nat):Int) from smE (by omega) (by omega) (by omega))
    have e4:=Aside0.mk (show wrap64 (((P.length + 2 * m:Nat):Int) + ((2 * m:Nat):Int))=((P.length + 2 * m + 2 * m:Nat):Int) from smE (by omega) (by omega) (by omega))
    by_cases c:2 * m≤S.length
    · refine Ev.step (fun k=> by apply api_KV_54.l2.eq_2) (ev_if (by omega) ?_)
      rw [e1.out,e3.out,e4.out,chs_cons hm (by omega),chs_cons hm (l:=S.drop m) (by rw [List.length_drop];omega),List.drop_drop]
      have lA:(tsort bf (S.take m)).length=m:=by rw [tsort_len,List.length_take];omega
      have lB:(tsort bf ((S.drop m).take m)).length=m:=by rw [tsort_len,List.length_take,List.length_drop];omega
      have hk:=sym_f (m + m) P (tsort bf (S.take m)) (tsort bf ((S.drop m).take m)) (chs m (S.drop (m + m))) (by omega) (by intro q;rw [q] at lA;simp at lA;omega) (by intro q;rw [q] at lB;simp at lB;omega) (tsort_srt sw _) (tsort_srt sw _) (by rw [chs_len,List.length_drop];omega)
      rw [lA,lB,tsort_append sw] at hk
      have g1:S.take m ++ (S.drop m).take m=S.take (2 * m):=by rw [show 2 * m=m + m by omega,List.take_add]
      have g2:P.length + m + m=P.length + 2 * m:=by omega
      rw [g1,g2] at hk
      refine ev_b hk ?_
      have hp:(P ++ tsort bf (S.take (2 * m))).length=P.length + 2 * m:=by rw [List.length_append,tsort_len,List.length_take];omega
      have hk2:=ih (P ++ tsort bf (S.take (2 * m))) (S.drop (2 * m)) (by rw [List.length_drop];omega) (by rw [hp,List.length_drop];omega) (by
        rw [chs_cons (m:=2 * m) (by omega) c,←List.append_assoc] at hR
        exact hR)
      rw [hp,List.append_assoc,show 2 * m=m + m by omega] at hk2
      rw [show 2 * m=m + m by omega]
      exact hk2
    · refine Ev.step (fun k=> by apply api_KV_54.l2.eq_2) (ev_ifn (by omega) ?_)
      rw [e1.out,e2.out]
      rw [chs_small (m:=2 * m) (by omega)] at hR
      by_cases c2:m < S.length
      · refine ev_if (by omega) ?_
        rw [chs_cons hm (by omega),chs_small (l:=S.drop m) (by rw [List.length_drop];omega)]
        have lA:(tsort bf (S.take m)).length=m:=by rw [tsort_len,List.length_take];omega
        have lB:(tsort bf (S.drop m)).length=S.length - m:=by rw [tsort_len,List.length_drop]
        have hk:=sym_f (m + S.length) P (tsort bf (S.take m)) (tsort bf (S.drop m)) [] (by omega) (by intro q;rw [q] at lA;simp at lA;omega) (by intro q;rw [q] at lB;simp at lB;omega) (tsort_srt sw _) (tsort_srt sw _) (by simp only [List.length_nil];omega)
        rw [lA,lB,two (by omega),List.append_nil,List.append_nil,show P.length + m + (S.length - m)=n by omega] at hk
        exact ev_b hk hR
      · refine ev_ifn (by omega) ?_
        rw [chs_small (by omega)]
        exact hR
theorem merges {n:Nat} (hn:n≤1000) {l:List KV} (hl:l.length=n) (d:Nat):∀m:Nat,1≤m→m≤2000→n≤m + d→Ev (fun k=> api_KV_54.l1 k (chs m l) (n:Int) () (m:Int)) (tsort bf l):=by
  induction d with
  |zero=>
    intro m h1 h2 h3
    rw [chs_small (by omega)]
    exact Ev.step (fun k=> by apply api_KV_54.l1.eq_2) (ev_ifn (by omega) (ev_now rfl))
  |succ d ih=>
    intro m h1 h2 h3
    by_cases c:m < n
    · have e3:=Aside0.mk (show wrap64 (2 * (m:Int))=((2 * m:Nat):Int) from smE (by omega) (by omega) (by omega))
      refine Ev.step (fun k=> by apply api_KV_54.l1.eq_2) (ev_if (by omega) ?_)
      rw [e3.out]
      have hk:=pass hn h1 (by omega) (R:=tsort bf l) n [] l (by omega) (by simpa using hl) (ih (2 * m) (by omega) (by omega) (by omega))
      simpa using hk
    · rw [chs_small (by omega)]
      exact Ev.step (fun k=> by apply api_KV_54.l1.eq_2) (ev_ifn (by omega) (ev_now rfl))
theorem sort_f {l:List KV} (hl:l.length≤1000):Ev (fun k=> api_KV_45.f k l ()) (tsort bf l):=by
  unfold api_KV_45.f api_KV_54.f
  refine ev_b (b:=tsort bf l) ?_ (ev_now rfl)
  have hm:=merges (n:=l.length) hl rfl l.length 20 (by omega) (by omega) (by omega)
  have hb:=blocks l.length hl (R:=tsort bf l) l.length [] l (Nat.le_refl _) (by simp) hm
  simpa using hb
end SortF
end Go.Proofs.Ytlmiojialcdcmaa.PM
