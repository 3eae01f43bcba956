/- ElectTerms: the pure statement, out of the plain laws of elections and of a store. -/
import Derived.Test.YtaebmmjhokjdbaaSaidElectTerms
import Derived.Test.YtaebmmjhokjdbaaStoreMore
set_option linter.unusedSimpArgs false
namespace Go.Proofs.Ytaebmmjhokjdbaa.PM.GElectTerms
open Go.RowKit Go.Proofs.YtaebmmjhokjdbaaW.PrintWords Go.Proofs.YtaebmmjhokjdbaaW.PrintLast Go.Proofs.YtaebmmjhokjdbaaW.PrintMore Go.Proofs.Ytaebmmjhokjdbaa.PM Go.Proofs.Ytaebmmjhokjdbaa.My ElectF StoreF
set_option linter.unusedVariables false
abbrev KV:=S26
abbrev EV:=S54
theorem cptF_lt:∀(l:List KV) (p:Int),l.Pairwise (fun a b=> a.f2≤b.f2)→(∀y∈l,p≤y.f2)→(∀y∈cptF p l,p < y.f2)∧(cptF p l).Pairwise (fun a b=> a.f2 < b.f2)
  | [],p,_,_=> ⟨by simp [cptF],List.Pairwise.nil⟩
  |x :: l,p,h,hp=> by
    obtain⟨h1,h2⟩:=List.pairwise_cons.1 h
    have hx:=hp x (by simp)
    rw [cptF]
    by_cases c:x.f2=p
    · rw [if_pos c]
      exact cptF_lt l p h2 (fun y hy=> hp y (by simp [hy]))
    · rw [if_neg c]
      obtain⟨i1,i2⟩:=cptF_lt l x.f2 h2 h1
      refine⟨?_,List.pairwise_cons.2 ⟨i1,i2⟩⟩
      intro y hy
      rcases List.mem_cons.1 hy with q|q
      · rw [q];omega
      · have:=i1 y q;omega
theorem trm_lt {l:List KV} (h:l.Pairwise (fun a b=> a.f2≤b.f2)):(trm l).Pairwise (· < ·):=by
  unfold trm
  rw [List.pairwise_map]
  cases l with
  |nil=> exact List.Pairwise.nil
  |cons x l=>
    obtain⟨h1,h2⟩:=List.pairwise_cons.1 h
    obtain⟨i1,i2⟩:=cptF_lt l x.f2 h2 h1
    exact List.pairwise_cons.2 ⟨i1,i2⟩
theorem no1 (p:ByteArray) (A:List KV) (es:List EV) (rev low:Int) (base:List KV) (log:List EV):Ev (fun n=> batonlaw17_ElectTerms.j1 n p A es true rev low base log) true:=Ev.step (fun n=> by apply batonlaw17_ElectTerms.j1.eq_2) (ev_if rfl (ev_b live (Ev.now _)))
theorem no0 (p:ByteArray) (at_ rev low:Int) (base:List KV) (log:List EV):Ev (fun n=> batonlaw17_ElectTerms.j0 n p at_ true rev low base log) true:=Ev.step (fun n=> by apply batonlaw17_ElectTerms.j0.eq_2) (ev_if rfl (ev_b live (Ev.now _)))
theorem neqO (y:KV):(!(y.f0.toList == y.f0.toList) || (!(y.f1.toList == y.f1.toList) || (!(y.f2 == y.f2) || (!(y.f3 == y.f3) || (!(y.f4 == y.f4) || (!(y.f5 == y.f5)))))))=false:=by rw [neq];simp
theorem l1 {rev low:Int} {base:List KV} {log:List EV} {p:ByteArray} {now seen:List KV} (hg:log.length≤60) (hb:base.length≤30) (hs:seen.length≤500) (hnow:now=Hist.frm p (Hist.fold rev base log)) (hseen:∀y∈seen,1≤y.f3∧(low≤y.f3→Hist.find y.f0 (Hist.frm p (Hist.fold y.f3 base log))=some y)) (d:Nat):∀i:Nat,seen.length=i + d→Ev (fun n=> batonlaw17_ElectTerms.l1 n p now seen (i:Int) rev low base log) true:=by
  have hfl:∀q:Int,(Hist.fold q base log).length≤90:=fun q=> by have:=Hist.fold_len q log base;omega
  induction d with
  |zero=>
    intro i hd
    refine Ev.step (fun n=> by apply batonlaw17_ElectTerms.l1.eq_2) ?_
    have h1:=hfl rev
    have h2:=Hist.frm_len p (Hist.fold rev base log)
    refine ev_ifn (by omega) (ev_b (now_f (low:=low) (by omega) (by omega)) (ev_b (Hist.frm_ref (by omega) p) ?_))
    exact ev_b (Hist.kvs_f hnow (by rw [hnow];omega)) (ev_if rfl (ev_b live (Ev.now _)))
  |succ d ih=>
    intro i hd
    have hlt:i < seen.length:=by omega
    obtain⟨m1,m2⟩:=hseen seen[i] (List.getElem_mem hlt)
    refine Ev.step (fun n=> by apply batonlaw17_ElectTerms.l1.eq_2) ?_
    refine ev_if (by omega) (ev_if (by omega) ?_)
    rw [Hist.rd hlt,Hist.nx (by omega)]
    obtain⟨res,k1,k2⟩:=at_any (rev:=rev) (low:=low) (at_:=seen[i].f3) (base:=base) (log:=log) (by omega) (by omega)
    refine ev_b k1 ?_
    by_cases c:res.2=0
    · obtain⟨e1,e2,e3,e4⟩:=k2 c (by omega)
      refine ev_if c ?_
      rw [e1]
      have h1:=hfl seen[i].f3
      have h2:=Hist.frm_len p (Hist.fold seen[i].f3 base log)
      refine ev_b (Hist.frm_ref (by omega) p) ?_
      have hf:=Hist.find_ref (l:=Hist.frm p (Hist.fold seen[i].f3 base log)) (by omega) seen[i].f0
      rw [m2 e4] at hf
      refine ev_b hf (ev_if rfl (ev_ifn ?_ (ih (i + 1) (by omega))))
      show¬(!(seen[i].f0.toList == seen[i].f0.toList) || (!(seen[i].f1.toList == seen[i].f1.toList) || (!(seen[i].f2 == seen[i].f2) || (!(seen[i].f3 == seen[i].f3) || (!(seen[i].f4 == seen[i].f4) || (!(seen[i].f5 == seen[i].f5)))))))=true
      rw [neqO]
      decide
    · exact ev_ifn c (ih (i + 1) (by omega))
theorem j3 {rev low:Int} {base:List KV} {log:List EV} {p:ByteArray} {l now seen:List KV} (hg:log.length≤60) (hb:base.length≤30) (hs:seen.length≤500) (hnow:now=Hist.frm p (Hist.fold rev base log)) (hseen:∀y∈seen,1≤y.f3∧(low≤y.f3→Hist.find y.f0 (Hist.frm p (Hist.fold y.f3 base log))=some y))
    (hlast:∀y∈seen,∀x∈now,y.f2≤x.f2) (hsame:∀x,seen= []→hdo now=some x→hdo l=some x):
    Ev (fun n=> batonlaw17_ElectTerms.j3 n p (Hist.out (hdo l)).2.2.2.2.2.2 now seen false rev low base log (Hist.out (hdo l)).1 (Hist.out (hdo l)).2.1 (Hist.out (hdo l)).2.2.1 (Hist.out (hdo l)).2.2.2.1 (Hist.out (hdo l)).2.2.2.2.1 (Hist.out (hdo l)).2.2.2.2.2.1) true:=by
  have hfl:(Hist.fold rev base log).length≤90:=by have:=Hist.fold_len rev log base;omega
  have h2:=Hist.frm_len p (Hist.fold rev base log)
  have hj4:Ev (fun n=> batonlaw17_ElectTerms.j4 n p now seen false rev low base log) true:=by
    refine Ev.step (fun n=> by apply batonlaw17_ElectTerms.j4.eq_2) ?_
    exact ev_ifn (by decide) (l1 hg hb hs hnow hseen seen.length 0 (by omega))
  refine Ev.step (fun n=> by apply batonlaw17_ElectTerms.j3.eq_2) ?_
  refine ev_ifn (by decide) (ev_c (head_f (l:=now) (by rw [hnow];omega)) ?_)
  cases hx:hdo now with
  |none=> exact ev_ifn (by simp [Hist.out]) hj4
  |some x=>
    refine ev_if rfl ?_
    by_cases c:seen= []
    · have e:=hsame x c hx
      subst c
      refine ev_ifn (by simp) (ev_if rfl ?_)
      rw [e]
      refine ev_if rfl ?_
      show Ev (fun n=> batonlaw17_ElectTerms.j4 n p now [] (!(x.f0.toList == x.f0.toList) || (!(x.f1.toList == x.f1.toList) || (!(x.f2 == x.f2) || (!(x.f3 == x.f3) || (!(x.f4 == x.f4) || (!(x.f5 == x.f5))))))) rev low base log) true
      rw [neqO]
      exact hj4
    · have hpos:0 < seen.length:=List.length_pos_iff.2 c
      obtain⟨m,hm⟩:∃m,seen.length=m + 1:=⟨seen.length - 1,by omega⟩
      refine ev_if (by omega) ?_
      rw [hm,pv (by omega)]
      refine ev_if (by omega) (ev_if (by omega) ?_)
      rw [Hist.rd (l:=seen) (i:=m) (by omega)]
      have:=hlast (seen[m]'(by omega)) (List.getElem_mem _) x (hdo_mem hx)
      refine ev_ifn (by show¬(seen[m]'(by omega)).f2 > x.f2;omega) (ev_ifn (by omega) hj4)
theorem l0 {rev low:Int} {base:List KV} {log:List EV} {p:ByteArray} {l now seen:List KV} {t:List Int} (ht:t.length≤500) (hlt:t.Pairwise (· < ·))
    (hj:Ev (fun n=> batonlaw17_ElectTerms.j3 n p (Hist.out (hdo l)).2.2.2.2.2.2 now seen false rev low base log (Hist.out (hdo l)).1 (Hist.out (hdo l)).2.1 (Hist.out (hdo l)).2.2.1 (Hist.out (hdo l)).2.2.2.1 (Hist.out (hdo l)).2.2.2.2.1 (Hist.out (hdo l)).2.2.2.2.2.1) true)
    (h0:∀x,hdo l=some x→∀h:0 < t.length,¬t[0] < x.f2) (d:Nat):∀i:Nat,t.length + 1≤i + 1 + d→Ev (fun n=> batonlaw17_ElectTerms.l0 n p (Hist.out (hdo l)).2.2.2.2.2.2 now seen t ((i + 1:Nat):Int) rev low base log (Hist.out (hdo l)).1 (Hist.out (hdo l)).2.1 (Hist.out (hdo l)).2.2.1 (Hist.out (hdo l)).2.2.2.1 (Hist.out (hdo l)).2.2.2.2.1 (Hist.out (hdo l)).2.2.2.2.2.1) true:=by
  have stop:∀i:Nat,t.length≤i + 1→Ev (fun n=> batonlaw17_ElectTerms.l0 n p (Hist.out (hdo l)).2.2.2.2.2.2 now seen t ((i + 1:Nat):Int) rev low base log (Hist.out (hdo l)).1 (Hist.out (hdo l)).2.1 (Hist.out (hdo l)).2.2.1 (Hist.out (hdo l)).2.2.2.1 (Hist.out (hdo l)).2.2.2.2.1 (Hist.out (hdo l)).2.2.2.2.2.1) true:=by
    intro i hi
    refine Ev.step (fun n=> by apply batonlaw17_ElectTerms.l0.eq_2) ?_
    refine ev_ifn (by omega) ?_
    by_cases c:(Hist.out (hdo l)).2.2.2.2.2.2=true
    · refine ev_if c ?_
      by_cases c2:(t.length:Int) > 0
      · refine ev_if c2 (ev_if c2 ?_)
        cases hx:hdo l with
        |none=> rw [hx] at c;cases c
        |some x=>
          have:=h0 x hx (by omega)
          rw [show((0:Int))=((0:Nat):Int) from rfl,rdi (l:=t) (i:=0) (by omega)]
          rw [hx] at hj
          rw [show decide ((t[0]'(by omega)) < (Hist.out (some x)).2.2.1)=false from decide_eq_false this]
          exact hj
      · exact ev_ifn c2 hj
    · exact ev_ifn c hj
  induction d with
  |zero=> exact fun i hi=> stop i (by omega)
  |succ d ih=>
    intro i hi
    by_cases c:i + 1 < t.length
    · have hp:=List.pairwise_iff_getElem.1 hlt i (i + 1) (by omega) c (by omega)
      refine Ev.step (fun n=> by apply batonlaw17_ElectTerms.l0.eq_2) ?_
      rw [pv (by omega)]
      refine ev_if (by omega) (ev_if (by omega) (ev_if (by omega) (ev_if (by omega) ?_)))
      rw [rdi (l:=t) (i:=i) (by omega),rdi c,Hist.nx (by omega)]
      exact ev_ifn (by omega) (ih (i + 1) (by omega))
    · exact stop i (by omega)
theorem fold_view {ρ:Int}:∀{es:List EV} {l:List KV},(∀e∈es,e.f0≤ρ)→Hist.fold ρ l es=view l es
  | [],l,_=> rfl
  |e :: es,l,h=> by
    have h1:=h e (by simp)
    show Hist.fold ρ (Hist.step ρ l e) es=_
    rw [fold_view (fun y hy=> h y (by simp [hy])),view_cons]
    congr 1
    unfold Hist.step one1
    rw [if_neg (by omega)]
theorem asc_low {A:List EV} (h:asc A) (r:Int):A.filter (fun e=> decide (e.f0≤r)) ++ A.filter (fun e=> decide (r + 1≤e.f0))=A:=by
  have:=asc_split h (r + 1)
  have e:A.filter (low1 (r + 1))=A.filter (fun e=> decide (e.f0≤r)):=by
    apply List.filter_congr
    intro x _
    unfold low1
    by_cases c:x.f0≤r
    · rw [decide_eq_true c,decide_eq_true (by omega)]
    · rw [decide_eq_false c,decide_eq_false (by omega)]
  rw [e] at this
  exact this
theorem facts {rev low r:Int} {base:List KV} {log:List EV} {p:ByteArray} (hO:Ok rev low base log) (h1:low≤r) (h2:r≤rev):
    Rises r (Hist.frm p (Hist.fold r base log)) (sel p (r + 1) log)∧view (Hist.frm p (Hist.fold r base log)) (sel p (r + 1) log)=Hist.frm p (Hist.fold rev base log)∧
    (∀y∈(fol (Hist.frm p (Hist.fold r base log)) (sel p (r + 1) log)).2,1≤y.f3∧(low≤y.f3→Hist.find y.f0 (Hist.frm p (Hist.fold y.f3 base log))=some y))∧
    I r (Hist.frm p (Hist.fold r base log)):=by
  obtain⟨ha,hb⟩:=okL_asc hO.logs
  have hmod:=okL_mod hO.logs
  have hbm:=(Hist.may_iff base).1 hO.mayb
  have hsb:=hbm.2
  have hL:∀ρ,Hist.fold ρ base log=view base (log.filter (fun e=> decide (e.f0≤ρ))):=fun ρ=> by
    rw [←Hist.fold_low ρ log base]
    exact fold_view (fun e he=> by have:=(List.mem_filter.1 he).2;exact of_decide_eq_true this)
  have hsel:sel p (r + 1) log=(log.filter (fun e=> decide (r + 1≤e.f0))).filter (fun e=> Hist.pfx p e.f2.f0):=by
    unfold sel
    rw [List.filter_filter]
    apply List.filter_congr
    intro e _
    exact Bool.and_comm _ _
  have hspl:=asc_low ha r
  have hA:∀e∈log.filter (fun e=> decide (e.f0≤r)),e.f0≤r:=fun e he=> of_decide_eq_true (List.mem_filter.1 he).2
  have hB:∀e∈log.filter (fun e=> decide (r + 1≤e.f0)),r≤e.f0:=fun e he=> by have:=of_decide_eq_true (List.mem_filter.1 he).2;omega
  have hS:Hist.srt (Hist.fold r base log):=by rw [hL];exact srt_view _ hsb
  have hlog:okL low rev low base (log.filter (fun e=> decide (e.f0≤r)) ++ log.filter (fun e=> decide (r + 1≤e.f0))):=by rw [hspl];exact hO.logs
  have hok:=okL_app hlog r h1 hA hB
  rw [←hL] at hok

  have hbI:∀x∈base,x.f2≤low∧1≤x.f3:=fun x hx=> by
    have o:=hbm.1 x hx
    have m:=hO.bmod x hx
    unfold Hist.one at o
    simp only [Bool.and_eq_true,decide_eq_true_eq] at o
    omega
  have hall:∀(es:List EV) (last:Int) (l:List KV),(∀x∈l,x.f2≤last∧1≤x.f3)→okL low rev last l es→∀ρ,last≤ρ→(∀e∈es,e.f0≤ρ)→∀x∈view l es,x.f2≤ρ∧1≤x.f3:=by
    intro es
    induction es with
    |nil=> intro last l hl _ ρ hρ _ x hx;have:=hl x hx;exact⟨by omega,this.2⟩
    |cons e es ih=>
      rintro last l hl ⟨g1,g2,g3,g4,g5⟩ ρ hρ he x hx
      rw [one1_fold] at g5
      refine ih e.f0 (one1 l e) ?_ g5 ρ (he e (by simp)) (fun y hy=> he y (by simp [hy])) x hx
      intro y hy
      refine⟨?_,?_⟩
      · rcases step_cr g4 hy with q|⟨z,q,w⟩|q
        · have:=(hl y q).1;omega
        · have:=(hl z q).1;omega
        · omega
      · unfold one1 at hy
        by_cases c:e.f1=true
        · rw [if_pos c] at hy
          exact(hl y ((Hist.take_sub _ _).subset hy)).2
        · rw [if_neg c] at hy
          unfold okE at g4
          rw [if_neg c] at g4
          rcases Hist.lay_mem hy with q|q
          · have o:=g4.1
            unfold Hist.one at o
            simp only [Bool.and_eq_true,decide_eq_true_eq] at o
            rw [q]
            omega
          · exact(hl y q).2
  have hIr:∀ρ,low≤ρ→∀x∈Hist.fold ρ base log,x.f2≤ρ∧1≤x.f3:=by
    intro ρ hρ
    rw [hL]
    have hspl2:=asc_low ha ρ
    have hlog2:okL low rev low base (log.filter (fun e=> decide (e.f0≤ρ)) ++ log.filter (fun e=> decide (ρ + 1≤e.f0))):=by rw [hspl2];exact hO.logs
    have hpre:∀(A B:List EV) (last:Int) (l:List KV),okL low rev last l (A ++ B)→okL low rev last l A:=by
      intro A
      induction A with
      |nil=> intro _ _ _ _;trivial
      |cons e A ih=> rintro B last l ⟨g1,g2,g3,g4,g5⟩;exact⟨g1,g2,g3,g4,ih B _ _ g5⟩
    exact hall _ low base hbI (hpre _ _ _ _ hlog2) ρ hρ (fun e he=> of_decide_eq_true (List.mem_filter.1 he).2)
  have hI:I r (Hist.frm p (Hist.fold r base log)):=fun y hy=> (hIr r h1 y (Hist.frm_mem hy)).1
  have hV:okV r (Hist.frm p (Hist.fold r base log)) (sel p (r + 1) log):=by
    rw [hsel]
    exact okL_okV hS hok
  have hview:∀R,r≤R→view (Hist.frm p (Hist.fold r base log)) ((sel p (r + 1) log).filter (fun e=> decide (e.f0≤R)))=Hist.frm p (Hist.fold R base log):=by
    intro R hR
    have e1:(sel p (r + 1) log).filter (fun e=> decide (e.f0≤R))=((log.filter (fun e=> decide (r + 1≤e.f0))).filter (fun e=> decide (e.f0≤R))).filter (fun e=> Hist.pfx p e.f2.f0):=by
      rw [hsel]
      simp only [List.filter_filter]
      apply List.filter_congr
      intro e _
      generalize decide (e.f0≤R)=b1
      generalize Hist.pfx p e.f2.f0=b2
      generalize decide (r + 1≤e.f0)=b3
      cases b1 <;> cases b2 <;> cases b3 <;> rfl
    rw [e1,←frm_view _ hS,hL r,←view_append,hL R]
    congr 1
    have e2:log.filter (fun e=> decide (e.f0≤r))=(log.filter (fun e=> decide (e.f0≤r))).filter (fun e=> decide (e.f0≤R)):=by
      symm
      rw [List.filter_eq_self]
      intro e he
      have:=hA e he
      exact decide_eq_true (by omega)
    rw [e2,←List.filter_append,hspl]
  have hvA:view (Hist.frm p (Hist.fold r base log)) (sel p (r + 1) log)=Hist.frm p (Hist.fold rev base log):=by
    have:=hview rev h2
    rw [List.filter_eq_self.2] at this
    · exact this
    · intro e he
      have:=hb e (List.mem_filter.1 he).1
      exact decide_eq_true this.2.2
  refine⟨rises _ _ r _ (Nat.le_refl _) hI hV,hvA,?_,hI⟩
  intro y hy
  obtain⟨R,⟨e,he,hR⟩,hm⟩:=seen_at _ _ _ (Nat.le_refl _) (sel_asc ha p (r + 1)) y hy
  have hRr:r≤R:=by
    have:=(List.mem_filter.1 he).2
    simp only [Bool.and_eq_true,decide_eq_true_eq] at this
    omega
  rw [hview R hRr] at hm
  have hmF:=Hist.frm_mem hm
  have hpf:Hist.pfx p y.f0=true:=(List.mem_filter.1 hm).2
  refine⟨(hIr R (by omega) y hmF).2,fun hly=> ?_⟩
  rw [find_frm hpf]
  by_cases c:y.f3≤R
  · exact find_at (by rw [hL];exact srt_view _ hsb) (since_mod c hsb _ log (Nat.le_refl _) (fun z hz q=> (hmod z hz q).2) y hmF (Int.le_refl _))
  · have:Hist.fold y.f3 base log=Hist.fold R base log∨True:= .inr trivial
    exfalso

    have hM:∀(A:List EV) (l:List KV),(∀x∈l,x.f3≤R)→(∀z∈A,z.f0≤R)→(∀z∈A,¬z.f1=true→z.f2.f3=z.f0)→∀x∈view l A,x.f3≤R:=by
      intro A
      induction A with
      |nil=> exact fun l h _ _=> h
      |cons z A ih=>
        intro l hl hz hz2 x hx
        refine ih (one1 l z) ?_ (fun q hq=> hz q (by simp [hq])) (fun q hq=> hz2 q (by simp [hq])) x hx
        intro w hw
        unfold one1 at hw
        split at hw
        · exact hl w ((Hist.take_sub _ _).subset hw)
        · rename_i c3
          rcases Hist.lay_mem hw with q|q
          · have a1:=hz z (by simp)
            have a2:=hz2 z (by simp) c3
            rw [q];omega
          · exact hl w q
    rw [hL] at hmF
    exact c (hM _ base (fun x hx=> by have:=hO.bmod x hx;omega) (fun z hz=> of_decide_eq_true (List.mem_filter.1 hz).2) (fun z hz q=> (hmod z (List.mem_filter.1 hz).1 q).2) y hmF)
theorem yes {rev low r:Int} {base:List KV} {log:List EV} {p:ByteArray} (hO:Ok rev low base log) (h0:1≤r) (h2:r≤rev):Ev (fun n=> batonlaw17_ElectTerms.j0 n p r false rev low base log) true:=by
  have g1:=hO.low0;have g2:=hO.lowr;have g3:=hO.revm;have g4:=hO.blen;have g5:=hO.glen
  obtain⟨ha,hb⟩:=okL_asc hO.logs
  refine Ev.step (fun n=> by apply batonlaw17_ElectTerms.j0.eq_2) ?_
  refine ev_ifn (by decide) ?_
  obtain⟨ra,a1,a2⟩:=at_any (rev:=rev) (low:=low) (at_:=r) (base:=base) (log:=log) (by omega) (by omega)
  obtain⟨rb,b1,b2⟩:=all_f (low:=low) (p:=p) (base:=base) (r:=r + 1) g3 (by omega) (by omega) ha (fun e he=> (hb e he).2.2) (by omega) (by omega)
  refine ev_b a1 ?_
  rw [w64 (n:=r + 1) (by omega) (by omega)]
  refine ev_b b1 ?_
  by_cases c1:ra.2=0
  · refine ev_if c1 ?_
    by_cases c2:rb.2=0
    · rw [bne_eq_false_iff_eq.2 c2]
      obtain⟨e1,_,_,e4⟩:=a2 c1 (by omega)
      rw [e1,b2 c2]
      obtain⟨f1,f2,f3,f4⟩:=facts (p:=p) hO e4 h2
      have hfl:(Hist.fold r base log).length≤90:=by have:=Hist.fold_len r log base;omega
      have hfr:=Hist.frm_len p (Hist.fold r base log)
      have hsl:=sel_len p (r + 1) log
      have hfo:=fol_len _ (sel p (r + 1) log) (Hist.frm p (Hist.fold r base log)) (Nat.le_refl _)
      have hfv:=fol_view _ (sel p (r + 1) log) (Hist.frm p (Hist.fold r base log)) (Nat.le_refl _)
      refine Ev.step (fun n=> by apply batonlaw17_ElectTerms.j1.eq_2) ?_
      refine ev_ifn (by decide) (ev_b (Hist.frm_ref (by omega) p) (ev_c (head_f (by omega)) (ev_b (follow_f (by omega) (by omega)) (ev_b (terms_f (by omega)) ?_))))
      have htl:=trm_len (fol (Hist.frm p (Hist.fold r base log)) (sel p (r + 1) log)).2
      refine l0 (by omega) (trm_lt f1.rise) (j3 g5 g4 (by omega) (by rw [hfv,f2]) f3 f1.last f1.same) ?_ (trm (fol (Hist.frm p (Hist.fold r base log)) (sel p (r + 1) log)).2).length 0 (by omega)
      intro x hx hpos
      have key:∀(q:List KV),(∀y∈q,x.f2≤y.f2)→∀h:0 < (trm q).length,¬(trm q)[0] < x.f2:=by
        intro q hq h
        cases q with
        |nil=> simp [trm,cpt] at h
        |cons y q=>
          show¬y.f2 < x.f2
          have:=hq y (by simp)
          omega
      exact key _ (f1.least x.f2 (f4 x (hdo_mem hx)) (hdo_min hx)).1 hpos
    · rw [bne_iff_ne.2 c2]
      exact no1 _ _ _ _ _ _ _
  · exact ev_ifn c1 (no1 _ _ _ _ _ _ _)
theorem pure_holds:Pure:=by
  intro s p r _ _ _
  refine Ev.rounds (g:=fun n=> batonlaw17_ElectTerms.f n s.f0 s.f1 s.f2 s.f3 p r) ?_
  generalize s.f0=rev
  generalize s.f1=low
  generalize s.f2=base
  generalize s.f3=log
  unfold batonlaw17_ElectTerms.f
  have few:∃b,Ev (fun n=> batonref05_Few.f n rev low base log) b∧(b=true→base.length≤40∧log.length≤70):=by
    unfold batonref05_Few.f
    by_cases c1:Hist.few 40 base=true
    · refine⟨_,ev_b (Hist.few_f (by decide) base) (ev_if c1 (ev_b (Hist.fewE_f (by decide) log) (ev_now rfl))),fun q=> ?_⟩
      have h1:=Hist.few_len c1
      have h2:=Hist.fewE_len q
      omega
    · exact⟨false,ev_b (Hist.few_f (by decide) base) (ev_ifn c1 (ev_now rfl)),by intro q;cases q⟩
  obtain⟨b,k1,k2⟩:=few
  refine ev_b k1 ?_
  by_cases c1:b=true
  · obtain⟨l1,l2⟩:=k2 c1
    obtain⟨m,n1,n2⟩:=may_f (rev:=rev) (low:=low) (base:=base) (log:=log) (by omega) (by omega)
    refine ev_if c1 (ev_b n1 ?_)
    by_cases c2:m=true
    · refine ev_if c2 ?_
      by_cases c3:(p.size:Int) > 60
      · exact ev_if c3 (no0 _ _ _ _ _ _)
      refine ev_ifn c3 ?_
      by_cases c4:r < 1
      · exact ev_if c4 (no0 _ _ _ _ _ _)
      refine ev_ifn c4 ?_
      by_cases c5:r > rev
      · rw [decide_eq_true c5]
        exact no0 _ _ _ _ _ _
      · rw [decide_eq_false c5]
        exact yes (n2 c2) (by omega) (by omega)
    · exact ev_ifn c2 (no0 _ _ _ _ _ _)
  · exact ev_ifn c1 (no0 _ _ _ _ _ _)
end Go.Proofs.Ytaebmmjhokjdbaa.PM.GElectTerms
