/- Elections in plain Lean: whoever follows events, revision by revision. -/
import Derived.Test.YtaebmmjhokjdbaaElect
set_option linter.unusedSimpArgs false
namespace Go.Proofs.Ytaebmmjhokjdbaa.PM
open Go.RowKit Go.Proofs.YtaebmmjhokjdbaaW.PrintWords Go.Proofs.YtaebmmjhokjdbaaW.PrintLast Go.Proofs.YtaebmmjhokjdbaaW.PrintMore Go.Proofs.Ytaebmmjhokjdbaa.My
set_option linter.unusedVariables false
namespace ElectF
open Hist (out nx rd rde)
theorem fol_l0:∀(m:Nat) (es:List EV) (l S:List KV),es.length≤m→es.length≤200→l.length + es.length≤300→S.length + es.length≤300→Ev (fun n=> elect_Follow.l0 n l es S) ((fol l es).1,S ++ (fol l es).2)
  |m,[],l,S,_,_,_,_=> by
    rw [fol_nil,List.append_nil]
    exact Ev.step (fun n=> by apply elect_Follow.l0.eq_2) (ev_if rfl (ev_now rfl))
  |0,e :: es,l,S,h,_,_,_=> by simp at h
  |m + 1,e :: es,l,S,h,h2,h3,h4=> by
    simp only [List.length_cons] at h h2 h3 h4
    have ht:=tw_len (isr e) es
    have hv:=view_len (e :: es.takeWhile (isr e)) l
    simp only [List.length_cons] at hv
    refine Ev.step (fun n=> by apply elect_Follow.l0.eq_2) ?_
    refine ev_ifn (by(try simp only [List.length_cons]);omega) ?_
    refine fol_l1 (by omega) (fol_j2 (by omega) (by omega) (by omega) (by omega) (by omega) ?_) (es.takeWhile (isr e)).length 0 (by omega)
    intro S' hS'
    have hs1:(seen1 l (view l (e :: es.takeWhile (isr e)))).length≤1:=by unfold seen1;split;simp;split <;> simp
    have hk:=fol_l0 m (es.dropWhile (isr e)) (view l (e :: es.takeWhile (isr e))) S' (by omega) (by omega) (by omega) (by rw [hS',List.length_append];omega)
    rw [hS',List.append_assoc] at hk
    rw [fol_cons,hS']
    exact hk
theorem follow_f {es:List EV} (he:es.length≤200) {l:List KV} (hl:l.length + es.length≤300):Ev (fun n=> elect_Follow.f n l es) (fol l es):=by
  unfold elect_Follow.f
  refine ev_c (clone_f (by omega)) ?_
  have:=fol_l0 es.length es l [] (Nat.le_refl _) he hl (by simp only [List.length_nil];omega)
  simpa using this
theorem fol_len:∀(m:Nat) (es:List EV) (l:List KV),es.length≤m→(fol l es).2.length≤es.length
  |m,[],l,_=> by rw [fol_nil];exact Nat.le_refl _
  |0,e :: es,l,h=> by simp at h
  |m + 1,e :: es,l,h=> by
    simp only [List.length_cons] at h
    have ht:=tw_len (isr e) es
    have hs1:(seen1 l (view l (e :: es.takeWhile (isr e)))).length≤1:=by unfold seen1;split;simp;split <;> simp
    have hk:=fol_len m (es.dropWhile (isr e)) (view l (e :: es.takeWhile (isr e))) (by omega)
    rw [fol_cons]
    simp only [List.length_append,List.length_cons]
    omega
end ElectF
end Go.Proofs.Ytaebmmjhokjdbaa.PM
