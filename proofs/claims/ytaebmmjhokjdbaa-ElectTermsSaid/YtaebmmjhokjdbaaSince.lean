/- A store in plain Lean: the events since a revision. -/
import Derived.Test.YtaebmmjhokjdbaaPM32
import Derived.Test.YtaebmmjhokjdbaaStore
set_option linter.unusedSimpArgs false
namespace Go.Proofs.Ytaebmmjhokjdbaa.PM
open Go.RowKit Go.Proofs.YtaebmmjhokjdbaaW.PrintWords Go.Proofs.YtaebmmjhokjdbaaW.PrintLast Go.Proofs.YtaebmmjhokjdbaaW.PrintMore Go.Proofs.Ytaebmmjhokjdbaa.My
set_option linter.unusedVariables false
namespace StoreF
open Hist (out nx rd rde KV EV)
theorem begins_f (k p:ByteArray):batonref07_begins.f k p=some (Hist.pfx p k):=by
  unfold batonref07_begins.f Hist.pfx
  by_cases c:p.size≤k.size
  · rw [if_pos (by omega),if_pos (by omega),if_pos (by omega),Int.toNat_natCast,decide_eq_true c,Bool.true_and]
    rw [Hist.tl,Hist.tl,Lib.extract_data]
    simp
  · rw [if_neg (by omega),decide_eq_false c,Bool.false_and]
def sel (p:ByteArray) (r:Int) (log:List EV):List EV:=log.filter (fun e=> decide (r≤e.f0) && Hist.pfx p e.f2.f0)
theorem sel_len (p:ByteArray) (r:Int) (log:List EV):(sel p r log).length≤log.length:=List.length_filter_le _ _
def low1 (v:Int) (e:EV):Bool:=decide (e.f0 < v)
def sinceR (rev:Int) (A:List EV):List EV×Int×Int:=
  if (A.length:Int)≤30 then (A,rev + 1,0) else if (rd_T54 A 30).f0=(rd_T54 A 0).f0 then ([],0,4) else (A.takeWhile (low1 (rd_T54 A 30).f0),(rd_T54 A 30).f0,0)
theorem since_l1 {A:List EV} {v:Int} (hA:A.length≤500) (d:Nat):∀(i:Nat) (q:List EV),A.length=i + d→q.length≤i→Ev (fun n=> batonref07_Since.l1 n A v q (i:Int)) (q ++ (A.drop i).takeWhile (low1 v),v,0):=by
  induction d with
  |zero=>
    intro i q hd hq
    refine Ev.step (fun n=> by apply batonref07_Since.l1.eq_2) (ev_ifn (by omega) (ev_now ?_))
    rw [List.drop_of_length_le (by omega)]
    simp
  |succ d ih=>
    intro i q hd hq
    have hlt:i < A.length:=by omega
    refine Ev.step (fun n=> by apply batonref07_Since.l1.eq_2) ?_
    refine ev_if (by omega) (ev_if (by omega) ?_)
    rw [rde hlt,nx (by omega),List.drop_eq_getElem_cons hlt,List.takeWhile_cons]
    by_cases c:A[i].f0 < v
    · refine ev_if c (ev_if (by omega) ?_)
      rw [if_pos (by unfold low1;exact decide_eq_true c)]
      have hk:=ih (i + 1) (q ++ [A[i]]) (by omega) (by rw [List.length_append];simp only [List.length_singleton];omega)
      rw [List.append_assoc] at hk
      exact hk
    · refine ev_ifn c (ev_now ?_)
      rw [if_neg (by unfold low1;simpa using c),List.append_nil]
theorem since_l0 {rev low r:Int} {p:ByteArray} {base:List KV} {log:List EV} (hrev:rev≤1099511627774) (hrev0:0≤rev) (hg:log.length≤500) (d:Nat):∀(i:Nat) (q:List EV),log.length=i + d→q.length≤i→Ev (fun n=> batonref07_Since.l0 n p r 30 q (i:Int) rev low base log) (sinceR rev (q ++ sel p r (log.drop i))):=by
  induction d with
  |zero=>
    intro i q hd hq
    have e0:q ++ sel p r (log.drop i)=q:=by
      rw [List.drop_of_length_le (by omega)]
      simp [sel]
    rw [e0]
    refine Ev.step (fun n=> by apply batonref07_Since.l0.eq_2) (ev_ifn (by omega) ?_)
    unfold sinceR
    by_cases c:(q.length:Int)≤30
    · rw [w64 (n:=rev + 1) (by omega) (by omega)]
      exact ev_if c (ev_now (by rw [if_pos c]))
    · refine ev_ifn c (ev_if (by omega) (ev_if (by omega) (ev_if (by omega) ?_)))
      by_cases c2:(rd_T54 q 30).f0=(rd_T54 q 0).f0
      · exact ev_if c2 (ev_now (by rw [if_neg c,if_pos c2]))
      · refine ev_ifn c2 ?_
        have hk:=since_l1 (A:=q) (v:=(rd_T54 q 30).f0) (by omega) q.length 0 [] (by omega) (by simp)
        simp only [List.nil_append,List.drop_zero] at hk
        rw [if_neg c,if_neg c2]
        exact hk
  |succ d ih=>
    intro i q hd hq
    have hlt:i < log.length:=by omega
    refine Ev.step (fun n=> by apply batonref07_Since.l0.eq_2) ?_
    refine ev_if (by omega) (ev_if (by omega) ?_)
    rw [rde hlt,nx (by omega),List.drop_eq_getElem_cons hlt]
    unfold sel
    rw [List.filter_cons]
    by_cases c1:log[i].f0≥r
    · refine ev_if c1 (ev_c (begins_f _ _) ?_)
      by_cases c2:Hist.pfx p log[i].f2.f0=true
      · refine ev_if c2 (ev_if (by omega) ?_)
        rw [if_pos (by rw [c2,Bool.and_true];exact decide_eq_true c1)]
        have hk:=ih (i + 1) (q ++ [log[i]]) (by omega) (by rw [List.length_append];simp only [List.length_singleton];omega)
        rw [List.append_assoc] at hk
        exact hk
      · rw [if_neg (by simp [c2])]
        exact ev_ifn c2 (ih (i + 1) q (by omega) (by omega))
    · rw [if_neg (by rw [decide_eq_false (by omega)];simp)]
      exact ev_ifn c1 (ih (i + 1) q (by omega) (by omega))
theorem since_f {rev low r:Int} {p:ByteArray} {base:List KV} {log:List EV} (hrev:rev≤1099511627774) (hrev0:0≤rev) (hg:log.length≤500) (h1:1≤r) (h2:r≤rev + 1):Ev (fun n=> batonref07_Since.f n rev low base log p r 30) (if r≤low then ([],0,9) else sinceR rev (sel p r log)):=by
  unfold batonref07_Since.f
  refine ev_ifn (by omega) ?_
  rw [decide_eq_false (by omega)]
  refine Ev.step (fun n=> by apply batonref07_Since.j0.eq_2) ?_
  refine ev_ifn (by decide) (ev_ifn (by omega) ?_)
  rw [w64 (n:=rev + 1) (by omega) (by omega),decide_eq_false (by omega)]
  refine Ev.step (fun n=> by apply batonref07_Since.j1.eq_2) ?_
  refine ev_ifn (by decide) ?_
  by_cases c:r≤low
  · exact ev_if c (ev_now (by rw [if_pos c]))
  · refine ev_ifn c ?_
    rw [if_neg c]
    have hk:=since_l0 (low:=low) (r:=r) (p:=p) (base:=base) hrev hrev0 hg log.length 0 [] (by omega) (by simp)
    simpa using hk
def asc (log:List EV):Prop:=log.Pairwise (fun a b=> a.f0≤b.f0)
theorem asc_tw {A:List EV} (h:asc A) (v:Int):A.takeWhile (low1 v)=A.filter (low1 v):=by
  induction A with
  |nil=> rfl
  |cons x A ih=>
    have h':=List.pairwise_cons.1 h
    rw [List.takeWhile_cons,List.filter_cons]
    by_cases c:low1 v x=true
    · rw [if_pos c,if_pos c,ih h'.2]
    · rw [if_neg c,if_neg c]
      symm
      rw [List.filter_eq_nil_iff]
      intro y hy
      have:=h'.1 y hy
      unfold low1 at c⊢
      simp only [decide_eq_true_eq] at c⊢
      omega
theorem asc_split {A:List EV} (h:asc A) (v:Int):A.filter (low1 v) ++ A.filter (fun e=> decide (v≤e.f0))=A:=by
  induction A with
  |nil=> rfl
  |cons x A ih=>
    have h':=List.pairwise_cons.1 h
    rw [List.filter_cons,List.filter_cons]
    by_cases c:x.f0 < v
    · rw [if_pos (by unfold low1;exact decide_eq_true c),if_neg (by simp;omega)]
      rw [List.cons_append,ih h'.2]
    · rw [if_neg (by unfold low1;simpa using c),if_pos (by simp;omega)]
      have e1:A.filter (low1 v)= []:=by
        rw [List.filter_eq_nil_iff]
        intro y hy
        have:=h'.1 y hy
        unfold low1
        simp only [decide_eq_true_eq]
        omega
      have:=ih h'.2
      rw [e1,List.nil_append] at this
      rw [e1,List.nil_append,this]
theorem sel_sel {log:List EV} {p:ByteArray} {r v:Int} (h:r≤v):(sel p r log).filter (fun e=> decide (v≤e.f0))=sel p v log:=by
  unfold sel
  rw [List.filter_filter]
  apply List.filter_congr
  intro e _
  by_cases c:v≤e.f0
  · rw [decide_eq_true c,decide_eq_true (by omega:r≤e.f0)];simp
  · rw [decide_eq_false c];simp
theorem sel_asc {log:List EV} (h:asc log) (p:ByteArray) (r:Int):asc (sel p r log):=h.sublist List.filter_sublist
theorem all_l {rev low:Int} {p:ByteArray} {base:List KV} {log:List EV} (hrev:rev≤1099511627774) (hrev0:0≤rev) (hg:log.length≤500) (ha:asc log) (hr:∀e∈log,e.f0≤rev):∀(m:Nat) (r:Int) (q:List EV),(sel p r log).length≤m→1≤r→r≤rev + 1→q.length + (sel p r log).length≤500→
    ∃res,Ev (fun n=> batonref07_All.l0 n p r 30 q rev low base log) res∧(res.2=0→res.1=q ++ sel p r log):=by
  intro m
  induction m with
  |zero=>
    intro r q hm h1 h2 h3
    have hs:=since_f (low:=low) (p:=p) (base:=base) hrev hrev0 hg h1 h2
    by_cases c:r≤low
    · rw [if_pos c] at hs
      refine⟨([],9),?_,fun q=> by cases q⟩
      refine Ev.step (fun n=> by apply batonref07_All.l0.eq_2) ?_
      exact ev_b hs (ev_ifn (by show¬(9:Int)=0;decide) (ev_now rfl))
    · rw [if_neg c] at hs
      have e1:sinceR rev (sel p r log)=(sel p r log,rev + 1,0):=by
        unfold sinceR
        rw [if_pos (by omega)]
      rw [e1] at hs
      refine⟨(q ++ sel p r log,0),?_,fun _=> rfl⟩
      refine Ev.step (fun n=> by apply batonref07_All.l0.eq_2) ?_
      exact ev_b hs (ev_if rfl (ev_if (by dsimp only;omega) (ev_c rfl (ev_if (by show rev + 1 > rev;omega) (ev_now rfl)))))
  |succ m ih=>
    intro r q hm h1 h2 h3
    have hs:=since_f (low:=low) (p:=p) (base:=base) hrev hrev0 hg h1 h2
    by_cases c:r≤low
    · rw [if_pos c] at hs
      refine⟨([],9),?_,fun q=> by cases q⟩
      refine Ev.step (fun n=> by apply batonref07_All.l0.eq_2) ?_
      exact ev_b hs (ev_ifn (by show¬(9:Int)=0;decide) (ev_now rfl))
    rw [if_neg c] at hs
    unfold sinceR at hs
    by_cases c1:((sel p r log).length:Int)≤30
    · rw [if_pos c1] at hs
      refine⟨(q ++ sel p r log,0),?_,fun _=> rfl⟩
      refine Ev.step (fun n=> by apply batonref07_All.l0.eq_2) ?_
      exact ev_b hs (ev_if rfl (ev_if (by dsimp only;omega) (ev_c rfl (ev_if (by show rev + 1 > rev;omega) (ev_now rfl)))))
    rw [if_neg c1] at hs
    by_cases c2:(rd_T54 (sel p r log) 30).f0=(rd_T54 (sel p r log) 0).f0
    · rw [if_pos c2] at hs
      refine⟨([],4),?_,fun q=> by cases q⟩
      refine Ev.step (fun n=> by apply batonref07_All.l0.eq_2) ?_
      exact ev_b hs (ev_ifn (by show¬(4:Int)=0;decide) (ev_now rfl))
    rw [if_neg c2] at hs
    have hA:=sel_asc ha p r
    have h30:30 < (sel p r log).length:=by omega
    have r30:rd_T54 (sel p r log) 30=(sel p r log)[30]:=rde (i:=30) h30
    have r0:rd_T54 (sel p r log) 0=(sel p r log)[0]:=rde (i:=0) (by omega)
    rw [r30] at hs c2
    rw [r0] at c2
    obtain⟨v,hv⟩:∃v,v=(sel p r log)[30].f0:=⟨_,rfl⟩
    rw [←hv] at hs c2
    have hm30:(sel p r log)[30]∈sel p r log:=List.getElem_mem h30
    have hv1:v≤rev:=by rw [hv];exact hr _ (List.mem_filter.1 hm30).1
    have hv0:(sel p r log)[0].f0≤v:=by
      rw [hv]
      exact List.pairwise_iff_getElem.1 hA 0 30 (by omega) h30 (by omega)
    have hr0:r≤(sel p r log)[0].f0:=by
      have:=(List.mem_filter.1 (List.getElem_mem (l:=sel p r log) (n:=0) (by omega))).2
      simp only [Bool.and_eq_true,decide_eq_true_eq] at this
      exact this.1
    have hrv:r≤v:=by omega
    have hsp:=asc_split hA v
    rw [sel_sel hrv] at hsp
    rw [asc_tw hA] at hs
    have hl:=congrArg List.length hsp
    rw [List.length_append] at hl
    have hne:0 < ((sel p r log).filter (low1 v)).length:=by
      rw [List.length_pos_iff]
      intro c3
      have:(sel p r log)[0]∈(sel p r log).filter (low1 v):=List.mem_filter.2 ⟨List.getElem_mem _,by unfold low1;exact decide_eq_true (by omega)⟩
      rw [c3] at this
      simp at this
    obtain⟨res,k1,k2⟩:=ih v (q ++ (sel p r log).filter (low1 v)) (by omega) (by omega) (by omega) (by rw [List.length_append];omega)
    refine⟨res,?_,fun z=> by rw [k2 z,List.append_assoc,hsp]⟩
    refine Ev.step (fun n=> by apply batonref07_All.l0.eq_2) ?_
    exact ev_b hs (ev_if rfl (ev_if (by dsimp only;omega) (ev_c rfl (ev_ifn (by show¬v > rev;omega) k1))))
theorem all_f {rev low r:Int} {p:ByteArray} {base:List KV} {log:List EV} (hrev:rev≤1099511627774) (hrev0:0≤rev) (hg:log.length≤500) (ha:asc log) (hr:∀e∈log,e.f0≤rev) (h1:1≤r) (h2:r≤rev + 1):
    ∃res,Ev (fun n=> batonref07_All.f n rev low base log p r 30) res∧(res.2=0→res.1=sel p r log):=by
  have:=sel_len p r log
  obtain⟨res,k1,k2⟩:=all_l (low:=low) (p:=p) (base:=base) hrev hrev0 hg ha hr _ r [] (Nat.le_refl _) h1 h2 (by simp only [List.length_nil];omega)
  exact⟨res,k1,fun z=> by simpa using k2 z⟩
end StoreF
end Go.Proofs.Ytaebmmjhokjdbaa.PM
