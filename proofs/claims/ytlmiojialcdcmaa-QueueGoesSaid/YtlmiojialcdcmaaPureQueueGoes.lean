/- QueueGoes: the pure statement, out of the plain laws of keys and tickets. -/
import Derived.Test.YtlmiojialcdcmaaSaidQueueGoes
import Derived.Test.YtlmiojialcdcmaaKey
import Derived.Test.YtlmiojialcdcmaaTicketRef
set_option linter.unusedSimpArgs false
namespace Go.Proofs.Ytlmiojialcdcmaa.PM.GQueueGoes
open Go.RowKit Go.Proofs.YtlmiojialcdcmaaW.PrintWords Go.Proofs.YtlmiojialcdcmaaW.PrintLast Go.Proofs.YtlmiojialcdcmaaW.PrintMore Go.Proofs.Ytlmiojialcdcmaa.PM Go.Proofs.Ytlmiojialcdcmaa.My
set_option linter.unusedVariables false
theorem live:batonlaw19_live.f=some true:=by decide +kernel
abbrev E:ByteArray:=⟨#[]⟩
abbrev Rq:Type:=Int×Int×Int×Bool×ByteArray×ByteArray×Int×Int×Int×Int×List S51×List S76×List S76×Bool
def zr:Rq:=(0,0,0,false,E,E,0,0,0,0,[],[],[],false)
def ask (x:S24):Rq:=
  if Key.may x.f0 x.f1=true then
    (if x.f0=7∧x.f4.toList= [] then zr
     else if x.f0=7∧x.f6=1 then (2,0,0,true,E,E,0,0,0,0,[⟨x.f4,1,1,0,E⟩],[⟨false,x.f4,x.f3,0⟩],[],true)
     else if x.f0=8∧x.f6=2 then (1,0,0,false,(Key.prf x.f0 x.f1).1,E,0,0,0,0,[],[],[],true)
     else if x.f0=8∧x.f6=3 then (3,0,0,false,(Key.prf x.f0 x.f1).1,E,0,x.f8,0,0,[],[],[],true)
     else if x.f0=8∧x.f6=10 then (2,0,0,true,E,E,0,0,0,0,[⟨x.f4,1,1,x.f7,E⟩],[⟨true,x.f4,E,0⟩],[],true)
     else zr)
  else zr
theorem prf2 (k:Int) (s:ByteArray):(Key.prf k s).2=Key.may k s:=by
  unfold Key.prf
  by_cases h:Key.may k s=true
  · rw [if_pos h,h]
  · rw [if_neg h];simpa using h
theorem ask_f (x:S24) (hn:x.f1.size≤100):queue_Ask.f x.f0 x.f1 x.f2 x.f3 x.f4 x.f5 x.f6 x.f7 x.f8 x.f9=some (ask x):=by
  unfold queue_Ask.f ask
  rw [Key.prf_f _ hn,Option.bind_some,prf2]
  by_cases h:Key.may x.f0 x.f1=true
  · rw [if_pos h,if_pos h]
    by_cases h1:x.f0=7∧x.f4.toList= []
    · rw [if_pos h1,if_pos h1];rfl
    · rw [if_neg h1,if_neg h1]
      show(if x.f0=7∧x.f6=1 then _ else _)=_
      by_cases h2:x.f0=7∧x.f6=1
      · rw [if_pos h2,if_pos h2]
      rw [if_neg h2,if_neg h2]
      by_cases h3:x.f0=8∧x.f6=2
      · rw [if_pos h3,if_pos h3]
      rw [if_neg h3,if_neg h3]
      by_cases h4:x.f0=8∧x.f6=3
      · rw [if_pos h4,if_pos h4]
      rw [if_neg h4,if_neg h4]
      by_cases h5:x.f0=8∧x.f6=10
      · rw [if_pos h5,if_pos h5]
      rw [if_neg h5,if_neg h5];rfl
  · rw [if_neg h,if_neg h];rfl
theorem ask_r (x:S24) (hn:x.f1.size≤100):Ev (fun f=> batonref19_Ask.f f x.f0 x.f1 x.f2 x.f3 x.f4 x.f5 x.f6 x.f7 x.f8 x.f9) (ask x):=by
  unfold batonref19_Ask.f ask
  refine ev_b (Key.prf_ref _ hn) ?_
  rw [prf2]
  by_cases h:Key.may x.f0 x.f1=true
  · refine ev_if h ?_
    rw [if_pos h]
    have J (b:Bool) (r:Rq) (hr:Ev (fun k=> if b=true then ((batonref06_Put.f x.f4 x.f3 0).bind fun bt482=> (some (2,0,0,true,E,E,0,0,0,0,bt482.1,bt482.2.1,bt482.2.2,true))) else (if x.f0=8 then (if x.f6=2 then (some (1,0,0,false,(Key.prf x.f0 x.f1).1,E,0,0,0,0,[],[],[],true)) else (if x.f6=3 then (some (3,0,0,false,(Key.prf x.f0 x.f1).1,E,0,x.f8,0,0,[],[],[],true)) else (if x.f6=10 then ((batonref06_Drop.f x.f4 x.f7).bind fun bt491=> (some (2,0,0,true,E,E,0,0,0,0,bt491.1,bt491.2.1,bt491.2.2,true))) else (some zr)))) else (some zr))) r):Ev (fun k=> batonref19_Ask.j0 k (Key.prf x.f0 x.f1).1 b x.f0 x.f1 x.f2 x.f3 x.f4 x.f5 x.f6 x.f7 x.f8 x.f9) r:=
      Ev.step (fun n=> by apply batonref19_Ask.j0.eq_2) hr
    by_cases h7:x.f0=7
    · refine ev_if h7 ?_
      have n8:¬x.f0=8:=by omega
      by_cases h6:x.f6=1
      · refine ev_if h6 (J _ _ ?_)
        by_cases h4:x.f4.toList= []
        · refine ev_ifn (by simp [h4]) (ev_ifn n8 (ev_now ?_))
          rw [if_pos ⟨h7,h4⟩]
        · refine ev_if (by simpa using h4) (ev_now ?_)
          rw [if_neg (fun e=> h4 e.2),if_pos ⟨h7,h6⟩]
      · refine ev_ifn h6 (J _ _ (ev_ifn (by simp) (ev_ifn n8 (ev_now ?_))))
        by_cases h4:x.f4.toList= []
        · rw [if_pos ⟨h7,h4⟩]
        · rw [if_neg (fun e=> h4 e.2),if_neg (fun e=> h6 e.2),if_neg (fun e=> n8 e.1),if_neg (fun e=> n8 e.1),if_neg (fun e=> n8 e.1)]
    · refine ev_ifn h7 (J _ _ (ev_ifn (by simp) ?_))
      have m1:¬(x.f0=7∧x.f4.toList= []):=fun e=> h7 e.1
      have m2:¬(x.f0=7∧x.f6=1):=fun e=> h7 e.1
      by_cases h8:x.f0=8
      · refine ev_if h8 ?_
        by_cases h2:x.f6=2
        · refine ev_if h2 (ev_now ?_);rw [if_neg m1,if_neg m2,if_pos ⟨h8,h2⟩]
        refine ev_ifn h2 ?_
        by_cases h3:x.f6=3
        · refine ev_if h3 (ev_now ?_);rw [if_neg m1,if_neg m2,if_neg (fun e=> h2 e.2),if_pos ⟨h8,h3⟩]
        refine ev_ifn h3 ?_
        by_cases h10:x.f6=10
        · refine ev_if h10 (ev_now ?_);rw [if_neg m1,if_neg m2,if_neg (fun e=> h2 e.2),if_neg (fun e=> h3 e.2),if_pos ⟨h8,h10⟩]
        · refine ev_ifn h10 (ev_now ?_);rw [if_neg m1,if_neg m2,if_neg (fun e=> h2 e.2),if_neg (fun e=> h3 e.2),if_neg (fun e=> h10 e.2)]
      · refine ev_ifn h8 (ev_now ?_)
        rw [if_neg m1,if_neg m2,if_neg (fun e=> h8 e.1),if_neg (fun e=> h8 e.1),if_neg (fun e=> h8 e.1)]
  · refine ev_ifn h (ev_now ?_);rw [if_neg h];rfl
def ng (y:S65):Bool:= !y.f1
theorem cont (e:List S65):slices_ContainsFunc_32.f e ()=some (e.any ng):=anyM_eq (fun _ _=> rfl)
theorem rde {e:List S65} {i:Nat} (h:i < e.length):rd_T65 e (i:Int)=e[i]:=by simp [rd_T65,List.getElem?_eq_getElem h]
theorem lp (x:S24) (c b1 b2 rev b4 b5:Int) (yes:Bool) (l:List S49) (e:List S65) (he:e.length≤1000) (d:Nat):∀(i:Nat) (ph r:Int),e.length=i + d→Ev (fun k=> batonref19_Told.l0 k (i:Int) x.f0 x.f1 x.f2 x.f3 x.f4 x.f5 x.f6 x.f7 x.f8 x.f9 c b1 b2 rev b4 b5 yes l e x.f0 x.f1 x.f2 x.f3 x.f4 x.f5 ph x.f7 r x.f9) (if (e.drop i).any ng=true then (x.f0,x.f1,x.f2,x.f3,x.f4,x.f5,2,x.f7,x.f8,x.f9) else (x.f0,x.f1,x.f2,x.f3,x.f4,x.f5,ph,x.f7,r,x.f9)):=by
  induction d with
  |zero=>
    intro i ph r hd
    refine Ev.step (fun n=> by apply batonref19_Told.l0.eq_2) (ev_ifn (by omega) (ev_now ?_))
    rw [List.drop_of_length_le (by omega)]
    rfl
  |succ d ih=>
    intro i ph r hd
    have hlt:i < e.length:=by omega
    rw [List.drop_eq_getElem_cons hlt,List.any_cons]
    refine Ev.step (fun n=> by apply batonref19_Told.l0.eq_2) (ev_if (by omega) (ev_if (by omega) ?_))
    rw [rde hlt,TicketF.nx (by omega)]
    by_cases h:e[i].f1=true
    · refine ev_if h ?_
      rw [show ng e[i]=false by unfold ng;rw [h];rfl,Bool.false_or]
      exact ih (i + 1) ph r (by omega)
    · refine ev_ifn h ?_
      rw [show ng e[i]=true by unfold ng;simpa using h,Bool.true_or,if_pos rfl]
      have:=ih (i + 1) 2 x.f8 (by omega)
      rwa [ite_self] at this
theorem fe_l (e:List S65) (he:e.length≤1000) (d:Nat):∀i:Nat,e.length=i + d→∃b,Ev (fun n=> batonref03_FewEvents.l0 n e (i:Int)) b:=by
  induction d with
  |zero=>
    intro i hd
    exact⟨_,Ev.step (fun n=> by apply batonref03_FewEvents.l0.eq_2) (ev_ifn (by omega) (ev_now rfl))⟩
  |succ d ih=>
    intro i hd
    have hlt:i < e.length:=by omega
    by_cases h:(e[i].f2.f0.size:Int) > 60
    · exact⟨_,Ev.step (fun n=> by apply batonref03_FewEvents.l0.eq_2) (ev_if (by omega) (ev_if (by omega) (by rw [rde hlt];exact ev_if h (ev_now rfl))))⟩
    by_cases h2:(e[i].f2.f1.size:Int) > 60
    · exact⟨_,Ev.step (fun n=> by apply batonref03_FewEvents.l0.eq_2) (ev_if (by omega) (ev_if (by omega) (by rw [rde hlt];exact ev_ifn h (ev_if h2 (ev_now rfl)))))⟩
    obtain⟨b,hb⟩:=ih (i + 1) (by omega)
    exact⟨b,Ev.step (fun n=> by apply batonref03_FewEvents.l0.eq_2) (ev_if (by omega) (ev_if (by omega) (by rw [rde hlt,TicketF.nx (by omega)];exact ev_ifn h (ev_ifn h2 hb))))⟩
theorem fe_f (e:List S65):∃b,Ev (fun k=> batonref03_FewEvents.f k e 40) b∧(b=true→e.length≤40):=by
  unfold batonref03_FewEvents.f
  by_cases h:(e.length:Int) > 40
  · exact⟨false,ev_if h (ev_now rfl),by simp⟩
  · obtain⟨b,hb⟩:=fe_l e (by omega) e.length 0 (by omega)
    exact⟨b,ev_ifn h hb,fun _=> by omega⟩
abbrev is (x:S24):Bool:=(ask x).2.2.2.2.2.2.2.2.2.2.2.2.2
theorem told (x:S24) (c b1 b2 rev b4 b5:Int) (yes:Bool) (l:List S49) (e:List S65) (hn:x.f1.size≤100) (hl:l.length≤40) (he:e.length≤40):∃r,queue_Told.f x.f0 x.f1 x.f2 x.f3 x.f4 x.f5 x.f6 x.f7 x.f8 x.f9 c b1 b2 rev b4 b5 yes l e=some r∧Ev (fun k=> batonref19_Told.f k x.f0 x.f1 x.f2 x.f3 x.f4 x.f5 x.f6 x.f7 x.f8 x.f9 c b1 b2 rev b4 b5 yes l e) r:=by
  unfold queue_Told.f batonref19_Told.f
  rw [ask_f x hn,Option.bind_some]
  by_cases ha:is x=true
  case neg=> exact⟨_,if_neg ha,ev_b (ask_r x hn) (ev_ifn ha (ev_now rfl))⟩
  rw [if_pos ha]
  by_cases hc:c=0
  · rw [if_pos hc]
    by_cases h1:x.f6=1
    · rw [if_pos h1]
      by_cases hy:yes=true
      · exact⟨_,if_pos hy,ev_b (ask_r x hn) (ev_if ha (ev_if hc (ev_if h1 (ev_if hy (ev_now rfl)))))⟩
      · exact⟨_,if_neg hy,ev_b (ask_r x hn) (ev_if ha (ev_if hc (ev_if h1 (ev_ifn hy (ev_c rfl (ev_now rfl))))))⟩
    rw [if_neg h1]
    by_cases h2:x.f6=2
    · rw [if_pos h2]
      by_cases h0:(l.length:Int)=0
      · exact⟨_,if_pos h0,ev_b (ask_r x hn) (ev_if ha (ev_if hc (ev_ifn h1 (ev_if h2 (ev_if h0 (ev_now rfl))))))⟩
      · rw [if_neg h0,TicketF.order_f (by omega),Option.bind_some]
        have hp:0 < ((TicketF.ord l).length:Int):=by rw [TicketF.ord_len];omega
        exact⟨_,if_pos hp,ev_b (ask_r x hn) (ev_if ha (ev_if hc (ev_ifn h1 (ev_if h2 (ev_ifn h0 (ev_b (TicketF.order_r (by omega)) (ev_if hp (ev_now rfl))))))))⟩
    rw [if_neg h2]
    by_cases h3:x.f6=3
    · rw [if_pos h3,cont,Option.bind_some]
      have hq:=lp x c b1 b2 rev b4 b5 yes l e (by omega) e.length 0 x.f6 rev (by omega)
      rw [List.drop_zero] at hq
      refine⟨_,?_,ev_b (ask_r x hn) (ev_if ha (ev_if hc (ev_ifn h1 (ev_ifn h2 (ev_if h3 hq)))))⟩
      by_cases hg:e.any ng=true
      · rw [if_pos hg,if_pos hg]
      · rw [if_neg hg,if_neg hg]
    rw [if_neg h3]
    by_cases h10:x.f6=10
    · rw [if_pos h10]
      by_cases hy:yes=true
      · exact⟨_,if_pos hy,ev_b (ask_r x hn) (ev_if ha (ev_if hc (ev_ifn h1 (ev_ifn h2 (ev_ifn h3 (ev_if hy (ev_now rfl)))))))⟩
      · exact⟨_,if_neg hy,ev_b (ask_r x hn) (ev_if ha (ev_if hc (ev_ifn h1 (ev_ifn h2 (ev_ifn h3 (ev_ifn hy (ev_now rfl)))))))⟩
    · exact⟨_,if_neg h10,ev_b (ask_r x hn) (ev_if ha (ev_if hc (ev_ifn h1 (ev_ifn h2 (ev_ifn h3 (ev_ifn h10 (ev_now rfl)))))))⟩
  rw [if_neg hc]
  by_cases h3:x.f6=3
  · rw [if_pos h3]
    by_cases h9:c=9
    · exact⟨_,if_pos h9,ev_b (ask_r x hn) (ev_if ha (ev_ifn hc (ev_if h3 (ev_if h9 (ev_now rfl)))))⟩
    rw [if_neg h9]
    by_cases h8:c=8
    · exact⟨_,if_pos h8,ev_b (ask_r x hn) (ev_if ha (ev_ifn hc (ev_if h3 (ev_ifn h9 (ev_if h8 (ev_now rfl))))))⟩
    · exact⟨_,if_neg h8,ev_b (ask_r x hn) (ev_if ha (ev_ifn hc (ev_if h3 (ev_ifn h9 (ev_ifn h8 (ev_c rfl (ev_now rfl)))))))⟩
  · exact⟨_,if_neg h3,ev_b (ask_r x hn) (ev_if ha (ev_ifn hc (ev_ifn h3 (ev_c rfl (ev_now rfl)))))⟩
theorem pure_holds:Pure:=by
  intro x p hx hp
  refine Ev.rounds (g:=fun n=> batonlaw19_QueueGoes.f n x.f0 x.f1 x.f2 x.f3 x.f4 x.f5 x.f6 x.f7 x.f8 x.f9 p.f0 p.f1 p.f2 p.f3 p.f4 p.f5 p.f6 p.f7 p.f8) ?_
  unfold batonlaw19_QueueGoes.f
  have no:Ev (fun n=> batonlaw19_QueueGoes.j0 n true x.f0 x.f1 x.f2 x.f3 x.f4 x.f5 x.f6 x.f7 x.f8 x.f9 p.f0 p.f1 p.f2 p.f3 p.f4 p.f5 p.f6 p.f7 p.f8) true:=Ev.step (fun n=> by apply batonlaw19_QueueGoes.j0.eq_2) (ev_if rfl (ev_c live (ev_now rfl)))
  by_cases hs:(x.f1.size:Int)≤60∧(x.f3.size:Int)≤60∧(x.f4.size:Int)≤60
  · refine ev_c (b:=true) (by unfold batonref16_Short.f;rw [if_pos hs.1,if_pos hs.2.1,decide_eq_true hs.2.2]) (ev_if rfl ?_)
    refine ev_b (TicketF.few_f (by omega) p.f7) ?_
    by_cases hf:TicketF.few 40 p.f7=true
    case neg=> exact ev_ifn hf no
    refine ev_if hf ?_
    have hl:=TicketF.few_len hf
    obtain⟨b,hb,he⟩:=fe_f p.f8
    refine ev_b hb ?_
    by_cases hbb:b=true
    case neg=> exact ev_ifn hbb no
    refine ev_if hbb ?_
    by_cases hv:p.f3 > 1099511627775
    · rw [decide_eq_true hv];exact no
    rw [decide_eq_false hv]
    obtain⟨r,h1,h2⟩:=told x p.f0 p.f1 p.f2 p.f3 p.f4 p.f5 p.f6 p.f7 p.f8 (by omega) (by omega) (he hbb)
    refine Ev.step (fun n=> by apply batonlaw19_QueueGoes.j0.eq_2) (ev_ifn (by decide) (ev_c h1 (ev_b h2 ?_)))
    exact ev_if (by simp) (ev_c live (ev_now rfl))
  · have hs2:batonref16_Short.f x.f0 x.f1 x.f2 x.f3 x.f4 x.f5 x.f6 x.f7 x.f8 x.f9=some false:=by
      unfold batonref16_Short.f
      by_cases h1:(x.f1.size:Int)≤60
      · rw [if_pos h1]
        by_cases h3:(x.f3.size:Int)≤60
        · rw [if_pos h3,decide_eq_false (fun h4=> hs ⟨h1,h3,h4⟩)]
        · rw [if_neg h3]
      · rw [if_neg h1]
    exact ev_c hs2 (ev_ifn (by decide) no)
end Go.Proofs.Ytlmiojialcdcmaa.PM.GQueueGoes
