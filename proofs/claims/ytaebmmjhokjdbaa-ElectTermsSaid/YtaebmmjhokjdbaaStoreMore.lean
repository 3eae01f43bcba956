/- A store and its heads in plain Lean: Creates rise; what stands there stood there since its Mod. -/
import Derived.Test.YtaebmmjhokjdbaaSince
import Derived.Test.YtaebmmjhokjdbaaElectFl
set_option linter.unusedSimpArgs false
namespace Go.Proofs.Ytaebmmjhokjdbaa.PM
open Go.RowKit Go.Proofs.YtaebmmjhokjdbaaW.PrintWords Go.Proofs.YtaebmmjhokjdbaaW.PrintLast Go.Proofs.YtaebmmjhokjdbaaW.PrintMore Go.Proofs.Ytaebmmjhokjdbaa.My
set_option linter.unusedVariables false
namespace StoreF
open Hist (KV EV)
open ElectF (one1 view view_cons view_append one1_fold fol fol_cons fol_nil seen1 isr hdo hdo_min hdo_mem tw_dw drop_le)
theorem srt_one1 {l:List KV} (h:Hist.srt l) (e:EV):Hist.srt (one1 l e):=by
  unfold one1
  split
  · exact h.sublist (Hist.take_sub _ _)
  · exact Hist.lay_srt _ h
theorem srt_inj:∀{l:List KV},Hist.srt l→∀{a b:KV},a∈l→b∈l→a.f0=b.f0→a=b
  | [],_,a,b,h,_,_=> by simp at h
  |y :: l,hs,a,b,ha,hb,e=> by
    rcases List.mem_cons.1 ha with h1|h1 <;> rcases List.mem_cons.1 hb with h2|h2
    · rw [h1,h2]
    · subst h1
      exact absurd e (Hist.lt_ne (Hist.srt_head hs b h2))
    · subst h2
      exact absurd e.symm (Hist.lt_ne (Hist.srt_head hs a h1))
    · exact srt_inj (Hist.srt_tail hs) h1 h2 e
theorem find_mem {k:ByteArray} {z:KV}:∀{l:List KV},Hist.find k l=some z→z∈l∧z.f0=k
  | [],h=> by cases h
  |y :: l,h=> by
    rw [Hist.find_cons] at h
    split at h
    · rename_i c
      obtain rfl:=Option.some.inj h
      exact⟨by simp,c⟩
    · have:=find_mem h
      exact⟨by simp [this.1],this.2⟩
theorem find_at:∀{l:List KV} {z:KV},Hist.srt l→z∈l→Hist.find z.f0 l=some z
  | [],z,_,h=> by simp at h
  |y :: l,z,hs,h=> by
    rw [Hist.find_cons]
    rcases List.mem_cons.1 h with e|e
    · rw [if_pos (by rw [e]),e]
    · rw [if_neg (fun c=> Hist.lt_ne (Hist.srt_head hs z e) c),find_at (Hist.srt_tail hs) e]
theorem self_lay (x:KV):∀l:List KV,x∈Hist.lay x l
  | []=> by simp [Hist.lay]
  |y :: l=> by
    rw [Hist.lay_cons]
    have:=self_lay x l
    split
    · exact List.mem_cons_of_mem _ this
    · split <;> simp
theorem mem_lay {x z:KV} (hz:z.f0≠x.f0):∀{l:List KV},z∈l→z∈Hist.lay x l
  | [],h=> by simp at h
  |y :: l,h=> by
    rw [Hist.lay_cons]
    rcases List.mem_cons.1 h with e|e
    · subst e
      split
      · simp
      · first|(rw [if_neg hz];simp;done)|simp
    · have:=mem_lay hz e
      split
      · exact List.mem_cons_of_mem _ this
      · split <;> simp [e]
theorem mem_take {k:ByteArray} {z:KV} (hz:z.f0≠k):∀{l:List KV},z∈l→z∈Hist.take k l
  | [],h=> by simp at h
  |y :: l,h=> by
    rw [Hist.take_cons]
    rcases List.mem_cons.1 h with e|e
    · subst e
      rw [if_neg hz]
      simp
    · split
      · exact e
      · exact List.mem_cons_of_mem _ (mem_take hz e)
theorem take_ne {k:ByteArray} {l:List KV} (hs:Hist.srt l) {z:KV} (h:z∈Hist.take k l):z.f0≠k:=by
  intro e
  have h1:=find_at (hs.sublist (Hist.take_sub k l)) h
  rw [e,Hist.find_take k hs] at h1
  cases h1
theorem find_frm {p k:ByteArray} (hp:Hist.pfx p k=true):∀l:List KV,Hist.find k (Hist.frm p l)=Hist.find k l
  | []=> rfl
  |y :: l=> by
    rw [Hist.find_cons]
    by_cases c:Hist.pfx p y.f0=true
    · rw [Hist.frm_yes c,Hist.find_cons,find_frm hp l]
    · rw [Hist.frm_not c,find_frm hp l,if_neg]
      rintro rfl
      exact c hp
theorem frm_one1 {p:ByteArray} {l:List KV} (hs:Hist.srt l) (e:EV):Hist.frm p (one1 l e)=if Hist.pfx p e.f2.f0=true then one1 (Hist.frm p l) e else Hist.frm p l:=by
  unfold one1
  by_cases c:Hist.pfx p e.f2.f0=true
  · rw [if_pos c]
    split
    · exact Hist.frm_take c l
    · exact Hist.frm_lay c hs
  · rw [if_neg c]
    split
    · exact Hist.frm_take_no c l
    · exact Hist.frm_lay_no c l
theorem frm_view {p:ByteArray}:∀(es:List EV) {l:List KV},Hist.srt l→Hist.frm p (view l es)=view (Hist.frm p l) (es.filter (fun e=> Hist.pfx p e.f2.f0))
  | [],l,_=> rfl
  |e :: es,l,hs=> by
    rw [view_cons,frm_view es (srt_one1 hs e),frm_one1 hs,List.filter_cons]
    split
    · rw [view_cons]
    · rfl
theorem srt_view:∀(es:List EV) {l:List KV},Hist.srt l→Hist.srt (view l es)
  | [],l,h=> h
  |e :: es,l,h=> by rw [view_cons];exact srt_view es (srt_one1 h e)
theorem okL_asc {low rev:Int}:∀{es:List EV} {last:Int} {l:List KV},okL low rev last l es→asc es∧∀e∈es,last≤e.f0∧low < e.f0∧e.f0≤rev
  | [],last,l,_=> ⟨List.Pairwise.nil,by simp⟩
  |e :: es,last,l,h=> by
    obtain⟨h1,h2,h3,_,h5⟩:=h
    obtain⟨i1,i2⟩:=okL_asc h5
    refine⟨List.pairwise_cons.2 ⟨fun y hy=> (i2 y hy).1,i1⟩,?_⟩
    intro y hy
    rcases List.mem_cons.1 hy with q|q
    · rw [q];exact⟨h2,h1,h3⟩
    · have:=i2 y q
      exact⟨by omega,this.2.1,this.2.2⟩
theorem okL_mod {low rev:Int}:∀{es:List EV} {last:Int} {l:List KV},okL low rev last l es→∀e∈es,¬e.f1=true→Hist.one e.f2=true∧e.f2.f3=e.f0
  | [],last,l,_=> by simp
  |e :: es,last,l,h=> by
    obtain⟨_,_,_,h4,h5⟩:=h
    intro y hy c
    rcases List.mem_cons.1 hy with q|q
    · rw [q] at c⊢
      unfold okE at h4
      rw [if_neg c] at h4
      exact⟨h4.1,h4.2.1⟩
    · exact okL_mod h5 y q c
def okV:Int→List KV→List EV→Prop
  |_,_,[]=> True
  |r,l,e :: es=> r≤e.f0∧okE l e∧okV e.f0 (one1 l e) es
theorem okV_mono {r r':Int} (h:r'≤r):∀{es:List EV} {l:List KV},okV r l es→okV r' l es
  | [],l,_=> trivial
  |e :: es,l,⟨h1,h2,h3⟩=> ⟨by omega,h2,h3⟩
theorem okE_frm {p:ByteArray} {l:List KV} {e:EV} (hp:Hist.pfx p e.f2.f0=true) (h:okE l e):okE (Hist.frm p l) e:=by
  unfold okE at h⊢
  rw [find_frm hp]
  exact h
theorem okL_okV {low rev:Int} {p:ByteArray}:∀{es:List EV} {last:Int} {l:List KV},Hist.srt l→okL low rev last l es→okV last (Hist.frm p l) (es.filter (fun e=> Hist.pfx p e.f2.f0))
  | [],last,l,_,_=> trivial
  |e :: es,last,l,hs,⟨h1,h2,h3,h4,h5⟩=> by
    rw [one1_fold] at h5
    have ih:=okL_okV (p:=p) (srt_one1 hs e) h5
    rw [frm_one1 hs] at ih
    rw [List.filter_cons]
    by_cases c:Hist.pfx p e.f2.f0=true
    · rw [if_pos c] at ih⊢
      exact⟨h2,okE_frm c h4,ih⟩
    · rw [if_neg c] at ih⊢
      exact okV_mono h2 ih
theorem okL_app {low rev:Int}:∀{A B:List EV} {last:Int} {l:List KV},okL low rev last l (A ++ B)→∀r,last≤r→(∀e∈A,e.f0≤r)→(∀e∈B,r≤e.f0)→okL low rev r (view l A) B
  | [],[],last,l,_,r,_,_,_=> trivial
  | [],e :: B,last,l,⟨h1,h2,h3,h4,h5⟩,r,h6,_,h7=> ⟨h1,h7 e (by simp),h3,h4,h5⟩
  |e :: A,B,last,l,⟨h1,h2,h3,h4,h5⟩,r,h6,h8,h7=> by
    rw [one1_fold] at h5
    rw [view_cons]
    exact okL_app h5 r (h8 e (by simp)) (fun y hy=> h8 y (by simp [hy])) h7
theorem step_cr {l:List KV} {e:EV} (ho:okE l e) {y:KV} (hy:y∈one1 l e):y∈l∨(∃x∈l,y.f2=x.f2)∨y.f2=e.f0:=by
  unfold one1 at hy
  unfold okE at ho
  by_cases c:e.f1=true
  · rw [if_pos c] at hy
    exact .inl ((Hist.take_sub _ _).subset hy)
  · rw [if_neg c] at hy ho
    rcases Hist.lay_mem hy with q|q
    · subst q
      right
      cases hf:Hist.find e.f2.f0 l with
      |none=> rw [hf] at ho;exact .inr ho.2.2.1
      |some x=> rw [hf] at ho;exact .inl ⟨x,(find_mem hf).1,ho.2.2.1⟩
    · exact .inl q
def I (r:Int) (l:List KV):Prop:=∀y∈l,y.f2≤r
def P (c:Int) (l:List KV):Prop:=∀y∈l,c≤y.f2
theorem okV_app:∀{A B:List EV} {r:Int} {l:List KV},I r l→okV r l (A ++ B)→∃r',r≤r'∧I r' (view l A)∧okV r' (view l A) B∧∀c,c≤r→P c l→P c (view l A)
  | [],B,r,l,hi,h=> ⟨r,Int.le_refl _,hi,h,fun _ _ q=> q⟩
  |e :: A,B,r,l,hi,⟨h1,h2,h3⟩=> by
    have hi':I e.f0 (one1 l e):=by
      intro y hy
      rcases step_cr h2 hy with q|⟨x,q,w⟩|q
      · have:=hi y q;omega
      · have:=hi x q;omega
      · omega
    obtain⟨r',k1,k2,k3,k4⟩:=okV_app hi' h3
    refine⟨r',by omega,k2,k3,fun c hc hp=> k4 c (by omega) ?_⟩
    intro y hy
    rcases step_cr h2 hy with q|⟨x,q,w⟩|q
    · exact hp y q
    · have:=hp x q;omega
    · omega
theorem seen1_mem {a b:List KV} {x:KV} (h:x∈seen1 a b):hdo b=some x:=by
  unfold seen1 at h
  cases hb:hdo b with
  |none=> rw [hb] at h;simp at h
  |some z=>
    rw [hb] at h
    dsimp only at h
    split at h
    · simp at h
    · rw [List.mem_singleton.1 h]
theorem seen1_nil {a b:List KV} {x:KV} (h:seen1 a b= []) (hb:hdo b=some x):hdo a=some x:=by
  unfold seen1 at h
  rw [hb] at h
  dsimp only at h
  split at h
  · assumption
  · cases h
theorem seen1_one (a b:List KV):seen1 a b= []∨∃x,seen1 a b= [x]:=by
  unfold seen1
  cases hdo b with
  |none=> exact .inl rfl
  |some z=>
    dsimp only
    split
    · exact .inl rfl
    · exact .inr ⟨z,rfl⟩
structure Rises (r:Int) (l:List KV) (es:List EV):Prop where
  least:∀c,c≤r→P c l→(∀y∈(fol l es).2,c≤y.f2)∧P c (fol l es).1
  rise:(fol l es).2.Pairwise (fun a b=> a.f2≤b.f2)
  last:∀y∈(fol l es).2,∀x∈(fol l es).1,y.f2≤x.f2
  same:∀x,(fol l es).2= []→hdo (fol l es).1=some x→hdo l=some x
theorem rises:∀(n:Nat) (es:List EV) (r:Int) (l:List KV),es.length≤n→I r l→okV r l es→Rises r l es
  |n,[],r,l,_,hi,_=> by
    refine⟨fun c _ hp=> ⟨?_,?_⟩,?_,?_,?_⟩ <;> rw [fol_nil]
    · simp
    · exact hp
    · exact List.Pairwise.nil
    · simp
    · intro x _ h;exact h
  |0,e :: es,r,l,h,_,_=> by simp at h
  |n + 1,e :: es,r,l,h,hi,hv=> by
    simp only [List.length_cons] at h
    have hd:=drop_le (isr e) es
    have hsplit:e :: es=(e :: es.takeWhile (isr e)) ++ es.dropWhile (isr e):=by rw [List.cons_append,tw_dw]
    rw [hsplit] at hv
    obtain⟨r',k1,k2,k3,k4⟩:=okV_app hi hv
    have ih:=rises n (es.dropWhile (isr e)) r' (view l (e :: es.takeWhile (isr e))) (by omega) k2 k3
    have hs:∀x∈seen1 l (view l (e :: es.takeWhile (isr e))),x.f2≤r'∧P x.f2 (view l (e :: es.takeWhile (isr e))):=fun x hx=> ⟨k2 x (hdo_mem (seen1_mem hx)),hdo_min (seen1_mem hx)⟩
    refine⟨fun c hc hp=> ?_,?_,?_,?_⟩ <;> rw [fol_cons]
    · have hP:=k4 c hc hp
      have:=ih.least c (by omega) hP
      refine⟨?_,this.2⟩
      intro y hy
      rcases List.mem_append.1 hy with q|q
      · exact hP y (hdo_mem (seen1_mem q))
      · exact this.1 y q
    · refine List.pairwise_append.2 ⟨?_,ih.rise,?_⟩
      · rcases seen1_one l (view l (e :: es.takeWhile (isr e))) with q|⟨x,q⟩ <;> rw [q] <;> simp
      · intro a ha b hb
        exact(ih.least a.f2 (hs a ha).1 (hs a ha).2).1 b hb
    · intro y hy x hx
      rcases List.mem_append.1 hy with q|q
      · exact(ih.least y.f2 (hs y q).1 (hs y q).2).2 x hx
      · exact ih.last y q x hx
    · intro x hx hh
      obtain⟨q1,q2⟩:=List.append_eq_nil_iff.1 hx
      exact seen1_nil q1 (ih.same x q2 hh)
theorem seen_at:∀(n:Nat) (es:List EV) (l:List KV),es.length≤n→asc es→∀y∈(fol l es).2,∃R,(∃e∈es,e.f0=R)∧y∈view l (es.filter (fun e=> decide (e.f0≤R)))
  |n,[],l,_,_=> by rw [fol_nil];simp
  |0,e :: es,l,h,_=> by simp at h
  |n + 1,e :: es,l,h,ha=> by
    simp only [List.length_cons] at h
    have hd:=drop_le (isr e) es
    have hac:=List.pairwise_cons.1 ha
    have hsplit:e :: es=(e :: es.takeWhile (isr e)) ++ es.dropWhile (isr e):=by rw [List.cons_append,tw_dw]
    have hA:∀x∈e :: es.takeWhile (isr e),x.f0=e.f0:=by
      intro x hx
      rcases List.mem_cons.1 hx with q|q
      · rw [q]
      · have:=List.all_eq_true.1 List.all_takeWhile x q
        unfold isr at this
        exact of_decide_eq_true this
    have hmem:∀x∈es.dropWhile (isr e),x∈es:=fun x hx=> (List.dropWhile_sublist _).subset hx
    have hB:∀x∈es.dropWhile (isr e),e.f0 < x.f0:=by
      have hasc:asc (es.dropWhile (isr e)):=hac.2.sublist (List.dropWhile_sublist _)
      cases hD:es.dropWhile (isr e) with
      |nil=> simp
      |cons z q=>
        rw [hD] at hasc
        have h1:=ElectF.dw_head _ es hD
        have h2:=hac.1 z (hmem z (by rw [hD];simp))
        have h3:z.f0≠e.f0:=by
          intro c
          apply h1
          unfold isr
          exact decide_eq_true c
        intro x hx
        rcases List.mem_cons.1 hx with w|w
        · rw [w];omega
        · have:=(List.pairwise_cons.1 hasc).1 x w
          omega
    have hfA:∀R,e.f0≤R→(e :: es.takeWhile (isr e)).filter (fun x=> decide (x.f0≤R))=e :: es.takeWhile (isr e):=by
      intro R hR
      rw [List.filter_eq_self]
      intro x hx
      have:=hA x hx
      exact decide_eq_true (by omega)
    rw [fol_cons]
    intro y hy
    rcases List.mem_append.1 hy with q|q
    · refine⟨e.f0,⟨e,by simp,rfl⟩,?_⟩
      rw [hsplit,List.filter_append,hfA e.f0 (Int.le_refl _)]
      have:(es.dropWhile (isr e)).filter (fun x=> decide (x.f0≤e.f0))= []:=by
        rw [List.filter_eq_nil_iff]
        intro x hx
        have:=hB x hx
        simp only [decide_eq_true_eq]
        omega
      rw [this,List.append_nil]
      exact hdo_mem (seen1_mem q)
    · obtain⟨R,⟨z,hz,hR⟩,hv⟩:=seen_at n (es.dropWhile (isr e)) (view l (e :: es.takeWhile (isr e))) (by omega) (hac.2.sublist (List.dropWhile_sublist _)) y q
      have:=hB z hz
      refine⟨R,⟨z,List.mem_cons_of_mem _ (hmem z hz),hR⟩,?_⟩
      rw [hsplit,List.filter_append,hfA R (by omega),view_append]
      exact hv
theorem since_mod {R ρ:Int} (hρ:ρ≤R) {base:List KV} (hb:Hist.srt base):∀(n:Nat) (log:List EV),log.length≤n→(∀e∈log,¬e.f1=true→e.f2.f3=e.f0)→∀y,y∈Hist.fold R base log→y.f3≤ρ→y∈Hist.fold ρ base log:=by
  have hsf:∀(q:Int) (A:List EV),Hist.srt (Hist.fold q base A):=by
    intro q A
    have:∀(A:List EV) (l:List KV),Hist.srt l→Hist.srt (Hist.fold q l A):=by
      intro A
      induction A with
      |nil=> exact fun l h=> h
      |cons e A ih=>
        intro l h
        show Hist.srt (Hist.fold q (Hist.step q l e) A)
        apply ih
        unfold Hist.step
        split
        · exact h
        · split
          · exact h.sublist (Hist.take_sub _ _)
          · exact Hist.lay_srt _ h
    exact this A base hb
  have snoc:∀(q:Int) (A:List EV) (e:EV),Hist.fold q base (A ++ [e])=Hist.step q (Hist.fold q base A) e:=by
    intro q A e
    unfold Hist.fold
    rw [List.foldl_append]
    rfl
  intro n
  induction n with
  |zero=>
    intro log hl _ y hy _
    obtain rfl:=List.length_eq_zero_iff.1 (Nat.le_zero.1 hl)
    exact hy
  |succ n ih=>
    intro log hl hm y hy h3
    rcases List.eq_nil_or_concat log with rfl|⟨A,e,rfl⟩
    · exact hy
    rw [List.concat_eq_append] at hl hm hy⊢
    rw [List.length_append,List.length_singleton] at hl
    have ihA:=ih A (by omega) (fun z hz=> hm z (by simp [hz])) y
    rw [snoc] at hy⊢
    have hsR:=hsf R A
    unfold Hist.step at hy⊢
    by_cases c1:e.f0 > R
    · rw [if_pos c1] at hy
      rw [if_pos (by omega)]
      exact ihA hy h3
    rw [if_neg c1] at hy
    by_cases c2:e.f0 > ρ
    · rw [if_pos c2]
      split at hy
      · exact ihA ((Hist.take_sub _ _).subset hy) h3
      · rename_i c3
        rcases Hist.lay_mem hy with q|q
        · have:=hm e (by simp) c3
          rw [q] at h3
          omega
        · exact ihA q h3
    · rw [if_neg c2]
      split at hy
      · rename_i c3
        rw [if_pos c3]
        exact mem_take (take_ne hsR hy) (ihA ((Hist.take_sub _ _).subset hy) h3)
      · rename_i c3
        rw [if_neg c3]
        by_cases c4:y.f0=e.f2.f0
        · have:y=e.f2:=srt_inj (Hist.lay_srt _ hsR) hy (self_lay _ _) c4
          rw [this]
          exact self_lay _ _
        · rcases Hist.lay_mem hy with q|q
          · exact absurd (by rw [q]) c4
          · exact mem_lay c4 (ihA q h3)
end StoreF
end Go.Proofs.Ytaebmmjhokjdbaa.PM
