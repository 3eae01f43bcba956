/- A store in plain Lean: what the reference's printed functions of it come to. -/
import Derived.Test.YtaebmmjhokjdbaaPM31
import Derived.Test.YtaebmmjhokjdbaaPM32
import Derived.Test.YtaebmmjhokjdbaaHistTold
set_option linter.unusedSimpArgs false
namespace Go.Proofs.Ytaebmmjhokjdbaa.PM
open Go.RowKit Go.Proofs.YtaebmmjhokjdbaaW.PrintWords Go.Proofs.YtaebmmjhokjdbaaW.PrintLast Go.Proofs.YtaebmmjhokjdbaaW.PrintMore Go.Proofs.Ytaebmmjhokjdbaa.My
set_option linter.unusedVariables false
namespace StoreF
open Hist (out nx rd rde KV EV)
def okE (l:List KV) (e:EV):Prop:=
  if e.f1=true then Hist.find e.f2.f0 l=some e.f2
  else Hist.one e.f2=true∧e.f2.f3=e.f0∧match Hist.find e.f2.f0 l with
    |some x=> e.f2.f2=x.f2∧wrap64 (e.f2.f4 - 1)=x.f4
    |none=> e.f2.f2=e.f0∧e.f2.f4=1
theorem kext {x y:KV} (h0:x.f0=y.f0) (h1:x.f1=y.f1) (h2:x.f2=y.f2) (h3:x.f3=y.f3) (h4:x.f4=y.f4) (h5:x.f5=y.f5):x=y:=by
  obtain⟨x0,x1,x2,x3,x4,x5⟩:=x
  obtain⟨y0,y1,y2,y3,y4,y5⟩:=y
  simp only at h0 h1 h2 h3 h4 h5
  subst h0;subst h1;subst h2;subst h3;subst h4;subst h5
  rfl
theorem right_f {l:List KV} (hl:l.length≤1000) (e:EV):∃b,Ev (fun n=> batonref05_right.f n l e.f0 e.f1 e.f2.f0 e.f2.f1 e.f2.f2 e.f2.f3 e.f2.f4 e.f2.f5) b∧(b=true→okE l e):=by
  unfold batonref05_right.f okE
  by_cases c:e.f1=true
  · rw [if_pos c]
    cases hf:Hist.find e.f2.f0 l with
    |none=>
      refine⟨false,?_,by intro q;cases q⟩
      have h1:=Hist.find_ref hl e.f2.f0
      rw [hf] at h1
      exact ev_b h1 (ev_if c (ev_ifn (by simp [out]) (ev_now rfl)))
    |some x=>
      refine⟨(x.f0.toList == e.f2.f0.toList && (x.f1.toList == e.f2.f1.toList && (x.f2 == e.f2.f2 && (x.f3 == e.f2.f3 && (x.f4 == e.f2.f4 && (x.f5 == e.f2.f5)))))),?_,?_⟩
      · have h1:=Hist.find_ref hl e.f2.f0
        rw [hf] at h1
        exact ev_b h1 (ev_if c (ev_if rfl (ev_now rfl)))
      · intro q
        simp only [Bool.and_eq_true,beq_iff_eq,Hist.tli] at q
        rw [kext q.1 q.2.1 q.2.2.1 q.2.2.2.1 q.2.2.2.2.1 q.2.2.2.2.2]
  · rw [if_neg c]
    have h1:=Hist.find_ref hl e.f2.f0
    have h2:=Hist.one_ref e.f2
    have h0:∀x0 x1 x2 x3 x4 x5 b,Ev (fun n=> batonref05_right.j0 n b true e.f0 e.f1 e.f2.f0 e.f2.f1 e.f2.f2 e.f2.f3 e.f2.f4 e.f2.f5 x0 x1 x2 x3 x4 x5) false:=fun _ _ _ _ _ _ _=> Ev.step (fun n=> by apply batonref05_right.j0.eq_2) (ev_if rfl (ev_now rfl))
    by_cases c1:Hist.one e.f2=true
    · by_cases c2:e.f2.f3=e.f0
      · cases hf:Hist.find e.f2.f0 l with
        |none=>
          rw [hf] at h1
          refine⟨if e.f2.f2=e.f0 then (e.f2.f4 == 1) else false,?_,?_⟩
          · refine ev_b h1 (ev_ifn c (ev_b h2 (ev_if c1 ?_)))
            rw [bne_eq_false_iff_eq.2 c2]
            refine Ev.step (fun n=> by apply batonref05_right.j0.eq_2) ?_
            refine ev_ifn (by decide) (ev_ifn (by simp [out]) ?_)
            by_cases c3:e.f2.f2=e.f0
            · exact ev_if c3 (ev_now (by rw [if_pos c3] <;> rfl))
            · exact ev_ifn c3 (ev_now (by rw [if_neg c3] <;> rfl))
          · intro q
            by_cases c3:e.f2.f2=e.f0
            · rw [if_pos c3] at q
              exact⟨c1,c2,c3,beq_iff_eq.1 q⟩
            · rw [if_neg c3] at q
              cases q
        |some x=>
          rw [hf] at h1
          refine⟨if e.f2.f2=x.f2 then (wrap64 (e.f2.f4 - 1) == x.f4) else false,?_,?_⟩
          · refine ev_b h1 (ev_ifn c (ev_b h2 (ev_if c1 ?_)))
            rw [bne_eq_false_iff_eq.2 c2]
            refine Ev.step (fun n=> by apply batonref05_right.j0.eq_2) ?_
            refine ev_ifn (by decide) (ev_if rfl ?_)
            by_cases c3:e.f2.f2=x.f2
            · exact ev_if c3 (ev_now (by rw [if_pos c3] <;> rfl))
            · exact ev_ifn c3 (ev_now (by rw [if_neg c3] <;> rfl))
          · intro q
            by_cases c3:e.f2.f2=x.f2
            · rw [if_pos c3] at q
              exact⟨c1,c2,c3,beq_iff_eq.1 q⟩
            · rw [if_neg c3] at q
              cases q
      · refine⟨false,?_,by intro q;cases q⟩
        refine ev_b h1 (ev_ifn c (ev_b h2 (ev_if c1 ?_)))
        rw [bne_iff_ne.2 c2]
        exact h0 _ _ _ _ _ _ _
    · refine⟨false,?_,by intro q;cases q⟩
      exact ev_b h1 (ev_ifn c (ev_b h2 (ev_ifn c1 (h0 _ _ _ _ _ _ _))))
def okL (low rev:Int):Int→List KV→List EV→Prop
  |_,_,[]=> True
  |last,l,e :: es=> low < e.f0∧last≤e.f0∧e.f0≤rev∧okE l e∧okL low rev e.f0 (Hist.fold e.f0 l [e]) es
theorem may_l1 {rev low:Int} {base:List KV} {log:List EV} (hg:log.length≤500) (d:Nat):∀(i:Nat) (l:List KV) (last:Int),log.length=i + d→l.length≤200→∃b,Ev (fun n=> batonref05_May.l1 n l last (i:Int) rev low base log) b∧(b=true→okL low rev last l (log.drop i)):=by
  induction d with
  |zero=>
    intro i l last hd hl
    refine⟨true,Ev.step (fun n=> by apply batonref05_May.l1.eq_2) (ev_ifn (by omega) (ev_now rfl)),fun _=> ?_⟩
    rw [List.drop_of_length_le (by omega)]
    trivial
  |succ d ih=>
    intro i l last hd hl
    have hlt:i < log.length:=by omega
    rw [List.drop_eq_getElem_cons hlt]
    have bad:Ev (fun n=> batonref05_May.j3 n l (i:Int) true rev low base log log[i].f0 log[i].f1 log[i].f2.f0 log[i].f2.f1 log[i].f2.f2 log[i].f2.f3 log[i].f2.f4 log[i].f2.f5) false:=Ev.step (fun n=> by apply batonref05_May.j3.eq_2) (ev_if rfl (ev_now rfl))
    by_cases c1:log[i].f0≤low
    · refine⟨false,?_,by intro q;cases q⟩
      refine Ev.step (fun n=> by apply batonref05_May.l1.eq_2) ?_
      refine ev_if (by omega) (ev_if (by omega) ?_)
      rw [rde hlt]
      exact ev_if c1 bad
    by_cases c2:log[i].f0 < last
    · refine⟨false,?_,by intro q;cases q⟩
      refine Ev.step (fun n=> by apply batonref05_May.l1.eq_2) ?_
      refine ev_if (by omega) (ev_if (by omega) ?_)
      rw [rde hlt]
      exact ev_ifn c1 (ev_if c2 bad)
    by_cases c3:log[i].f0 > rev
    · refine⟨false,?_,by intro q;cases q⟩
      refine Ev.step (fun n=> by apply batonref05_May.l1.eq_2) ?_
      refine ev_if (by omega) (ev_if (by omega) ?_)
      rw [rde hlt]
      exact ev_ifn c1 (ev_ifn c2 (ev_if c3 bad))
    obtain⟨b,hb,hb2⟩:=right_f (l:=l) (by omega) log[i]
    cases b with
    |false=>
      refine⟨false,?_,by intro q;cases q⟩
      refine Ev.step (fun n=> by apply batonref05_May.l1.eq_2) ?_
      refine ev_if (by omega) (ev_if (by omega) ?_)
      rw [rde hlt]
      exact ev_ifn c1 (ev_ifn c2 (ev_ifn c3 (ev_b hb bad)))
    |true=>
      have hf:=Hist.fold_ref log[i].f0 (log:= [log[i]]) (by simp) (l:=l) (by omega)
      have e1:(log.take (i + 1)).drop i= [log[i]]:=by
        rw [List.drop_take,List.drop_eq_getElem_cons hlt,Nat.add_sub_cancel_left]
        rfl
      by_cases c4:((Hist.fold log[i].f0 l [log[i]]).length:Int) > 30
      · refine⟨false,?_,by intro q;cases q⟩
        refine Ev.step (fun n=> by apply batonref05_May.l1.eq_2) ?_
        refine ev_if (by omega) (ev_if (by omega) ?_)
        rw [rde hlt]
        refine ev_ifn c1 (ev_ifn c2 (ev_ifn c3 (ev_b hb ?_)))
        refine Ev.step (fun n=> by apply batonref05_May.j3.eq_2) ?_
        rw [nx (by omega)]
        refine ev_ifn (by decide) (ev_if (by omega) (ev_if (by omega) (ev_if (by omega) ?_)))
        rw [Int.toNat_natCast,Int.toNat_natCast,e1]
        exact ev_b hf (ev_if c4 (ev_now rfl))
      · obtain⟨b,hk,hk2⟩:=ih (i + 1) (Hist.fold log[i].f0 l [log[i]]) log[i].f0 (by omega) (by omega)
        refine⟨b,?_,fun q=> ⟨by omega,by omega,by omega,hb2 rfl,hk2 q⟩⟩
        refine Ev.step (fun n=> by apply batonref05_May.l1.eq_2) ?_
        refine ev_if (by omega) (ev_if (by omega) ?_)
        rw [rde hlt]
        refine ev_ifn c1 (ev_ifn c2 (ev_ifn c3 (ev_b hb ?_)))
        refine Ev.step (fun n=> by apply batonref05_May.j3.eq_2) ?_
        rw [nx (by omega)]
        refine ev_ifn (by decide) (ev_if (by omega) (ev_if (by omega) (ev_if (by omega) ?_)))
        rw [Int.toNat_natCast,Int.toNat_natCast,e1]
        exact ev_b hf (ev_ifn c4 hk)
theorem may_l0 {rev low:Int} {base:List KV} {log:List EV} (hg:log.length≤500) (hb:base.length≤200) (d:Nat):∀i:Nat,base.length=i + d→∃b,Ev (fun n=> batonref05_May.l0 n (i:Int) rev low base log) b∧(b=true→(∀x∈base.drop i,x.f3≤low)∧okL low rev low base log):=by
  induction d with
  |zero=>
    intro i hd
    obtain⟨b,h1,h2⟩:=may_l1 (rev:=rev) (low:=low) (base:=base) hg log.length 0 base low (by omega) hb
    refine⟨b,Ev.step (fun n=> by apply batonref05_May.l0.eq_2) (ev_ifn (by omega) h1),fun q=> ⟨?_,by simpa using h2 q⟩⟩
    rw [List.drop_of_length_le (by omega)]
    simp
  |succ d ih=>
    intro i hd
    have hlt:i < base.length:=by omega
    by_cases c:base[i].f3 > low
    · refine⟨false,?_,by intro q;cases q⟩
      refine Ev.step (fun n=> by apply batonref05_May.l0.eq_2) ?_
      refine ev_if (by omega) (ev_if (by omega) ?_)
      rw [rd hlt]
      exact ev_if c (ev_now rfl)
    · obtain⟨b,h1,h2⟩:=ih (i + 1) (by omega)
      refine⟨b,?_,fun q=> ⟨?_,(h2 q).2⟩⟩
      · refine Ev.step (fun n=> by apply batonref05_May.l0.eq_2) ?_
        refine ev_if (by omega) (ev_if (by omega) ?_)
        rw [rd hlt,nx (by omega)]
        exact ev_ifn c h1
      · rw [List.drop_eq_getElem_cons hlt]
        intro x hx
        rcases List.mem_cons.1 hx with e|e
        · rw [e];omega
        · exact(h2 q).1 x e
structure Ok (rev low:Int) (base:List KV) (log:List EV):Prop where
  low0:0≤low
  lowr:low≤rev
  revm:rev≤1099511627774
  mayb:Hist.may base=true
  blen:base.length≤30
  glen:log.length≤60
  bmod:∀x∈base,x.f3≤low
  logs:okL low rev low base log
theorem may_f {rev low:Int} {base:List KV} {log:List EV} (hg:log.length≤500) (hb:base.length≤200):∃b,Ev (fun n=> batonref05_May.f n rev low base log) b∧(b=true→Ok rev low base log):=by
  have bad:Ev (fun n=> batonref05_May.j0 n true rev low base log) false:=Ev.step (fun n=> by apply batonref05_May.j0.eq_2) (ev_if rfl (ev_now rfl))
  unfold batonref05_May.f
  by_cases c1:low < 0
  · exact⟨false,ev_if c1 bad,by intro q;cases q⟩
  by_cases c2:low > rev
  · exact⟨false,ev_ifn c1 (ev_if c2 bad),by intro q;cases q⟩
  by_cases c3:rev > 1099511627774
  · exact⟨false,ev_ifn c1 (ev_ifn c2 (ev_if c3 bad)),by intro q;cases q⟩
  have hm:=Hist.may_ref (l:=base) (by omega)
  by_cases c4:Hist.may base=true
  · by_cases c5:(base.length:Int) > 30
    · exact⟨false,ev_ifn c1 (ev_ifn c2 (ev_ifn c3 (ev_b hm (ev_if c4 (ev_if c5 bad))))),by intro q;cases q⟩
    by_cases c6:(log.length:Int) > 60
    · refine⟨false,ev_ifn c1 (ev_ifn c2 (ev_ifn c3 (ev_b hm (ev_if c4 (ev_ifn c5 ?_))))),by intro q;cases q⟩
      rw [decide_eq_true c6]
      exact bad
    obtain⟨b,h1,h2⟩:=may_l0 (rev:=rev) (low:=low) hg hb base.length 0 (by omega)
    refine⟨b,ev_ifn c1 (ev_ifn c2 (ev_ifn c3 (ev_b hm (ev_if c4 (ev_ifn c5 ?_))))),fun q=> ⟨by omega,by omega,by omega,c4,by omega,by omega,by simpa using (h2 q).1,(h2 q).2⟩⟩
    rw [decide_eq_false c6]
    refine Ev.step (fun n=> by apply batonref05_May.j0.eq_2) ?_
    exact ev_ifn (by decide) h1
  · exact⟨false,ev_ifn c1 (ev_ifn c2 (ev_ifn c3 (ev_b hm (ev_ifn c4 bad)))),by intro q;cases q⟩
theorem now_f {rev low:Int} {base:List KV} {log:List EV} (hg:log.length≤500) (hb:base.length≤400):Ev (fun n=> batonref05_Now.f n rev low base log) (Hist.fold rev base log):=by
  unfold batonref05_Now.f
  exact ev_b (Hist.fold_ref rev hg hb) (ev_now rfl)
theorem at_ok {rev low at_:Int} {base:List KV} {log:List EV} (hg:log.length≤500) (hb:base.length≤400) (h1:1≤at_) (h2:at_≤rev) (h3:low≤at_):Ev (fun n=> batonref05_At.f n rev low base log at_) (Hist.fold at_ base log,0):=by
  unfold batonref05_At.f
  refine ev_ifn (by omega) (ev_ifn (by omega) ?_)
  rw [decide_eq_false (by omega)]
  refine Ev.step (fun n=> by apply batonref05_At.j0.eq_2) ?_
  exact ev_ifn (by decide) (ev_ifn (by omega) (ev_b (Hist.fold_ref at_ hg hb) (ev_now rfl)))
theorem at_any {rev low at_:Int} {base:List KV} {log:List EV} (hg:log.length≤500) (hb:base.length≤400):∃r,Ev (fun n=> batonref05_At.f n rev low base log at_) r∧(r.2=0→at_≠0→r.1=Hist.fold at_ base log∧1≤at_∧at_≤rev∧low≤at_):=by
  by_cases c0:at_=0
  · refine⟨(Hist.fold rev base log,0),?_,fun _ q=> absurd c0 q⟩
    unfold batonref05_At.f
    exact ev_if c0 (ev_b (now_f hg hb) (ev_now rfl))
  by_cases c1:at_ < 0
  · refine⟨([],8),?_,fun q=> by cases q⟩
    unfold batonref05_At.f
    exact ev_ifn c0 (ev_if c1 (Ev.step (fun n=> by apply batonref05_At.j0.eq_2) (ev_if rfl (ev_now rfl))))
  by_cases c2:at_ > rev
  · refine⟨([],8),?_,fun q=> by cases q⟩
    unfold batonref05_At.f
    refine ev_ifn c0 (ev_ifn c1 ?_)
    rw [decide_eq_true c2]
    exact Ev.step (fun n=> by apply batonref05_At.j0.eq_2) (ev_if rfl (ev_now rfl))
  by_cases c3:at_ < low
  · refine⟨([],9),?_,fun q=> by cases q⟩
    unfold batonref05_At.f
    refine ev_ifn c0 (ev_ifn c1 ?_)
    rw [decide_eq_false c2]
    refine Ev.step (fun n=> by apply batonref05_At.j0.eq_2) ?_
    exact ev_ifn (by decide) (ev_if c3 (ev_now rfl))
  · exact⟨_,at_ok hg hb (by omega) (by omega) (by omega),fun _ _=> ⟨rfl,by omega,by omega,by omega⟩⟩
end StoreF
end Go.Proofs.Ytaebmmjhokjdbaa.PM
