/- Lists of keys in plain Lean: what the reference finds, and gathers of a prefix. -/
import Derived.Test.YtaebmmjhokjdbaaPM31
import Derived.Test.YtaebmmjhokjdbaaPM22
import Derived.Test.YtaebmmjhokjdbaaHistRef
set_option linter.unusedSimpArgs false
namespace Go.Proofs.Ytaebmmjhokjdbaa.PM
open Go.RowKit Go.Proofs.YtaebmmjhokjdbaaW.PrintWords Go.Proofs.YtaebmmjhokjdbaaW.PrintLast Go.Proofs.YtaebmmjhokjdbaaW.PrintMore Go.Proofs.Ytaebmmjhokjdbaa.My
set_option linter.unusedVariables false
namespace Hist
theorem find_l (k:ByteArray) (l:List KV) (hl:l.length≤1000) (d:Nat):∀i:Nat,l.length=i + d→Ev (fun n=> batonref04_Find.l0 n l k (i:Int)) (out (find k (l.drop i))):=by
  induction d with
  |zero=>
    intro i hd
    refine Ev.step (fun n=> by apply batonref04_Find.l0.eq_2) (ev_ifn (by omega) (ev_now ?_))
    rw [List.drop_of_length_le (by omega)]
    rfl
  |succ d ih=>
    intro i hd
    have hlt:i < l.length:=by omega
    rw [List.drop_eq_getElem_cons hlt]
    refine Ev.step (fun n=> by apply batonref04_Find.l0.eq_2) (ev_if (by omega) (ev_if (by omega) ?_))
    rw [rd hlt,nx (by omega)]
    unfold find
    by_cases h:l[i].f0=k
    · refine ev_if (by rw [h]) (ev_now ?_)
      rw [if_pos h]
      rfl
    · refine ev_ifn (fun c=> h (tli.1 c)) ?_
      rw [if_neg h]
      exact ih (i + 1) (by omega)
theorem find_ref {l:List KV} (hl:l.length≤1000) (k:ByteArray):Ev (fun n=> batonref04_Find.f n l k) (out (find k l)):=find_l k l hl l.length 0 (by omega)
theorem frmr_l (p:ByteArray) (l:List KV) (hl:l.length≤1000) (d:Nat):∀(i:Nat) (q:List KV),l.length=i + d→q.length≤i→Ev (fun n=> batonref04_From.l0 n l p q (i:Int)) (q ++ frm p (l.drop i)):=by
  induction d with
  |zero=>
    intro i q hd hq
    refine Ev.step (fun n=> by apply batonref04_From.l0.eq_2) (ev_ifn (by omega) (ev_now ?_))
    rw [List.drop_of_length_le (by omega)]
    simp [frm]
  |succ d ih=>
    intro i q hd hq
    have hlt:i < l.length:=by omega
    rw [List.drop_eq_getElem_cons hlt]
    refine Ev.step (fun n=> by apply batonref04_From.l0.eq_2) (ev_if (by omega) (ev_if (by omega) ?_))
    rw [rd hlt,nx (by omega)]
    have hc:((l[i].f0.extract 0 ((p.size:Int)).toNat).toList=p.toList)↔l[i].f0.data.toList.take p.size=p.data.toList:=by
      rw [tl,tl,Lib.extract_data,Int.toNat_natCast]
      simp
    have hno:¬pfx p l[i].f0=true→Ev (fun n=> batonref04_From.l0 n l p q ((i + 1:Nat):Int)) (q ++ frm p (l[i] :: l.drop (i + 1))):=by
      intro h
      have:=ih (i + 1) q (by omega) (by omega)
      rw [frm_not h]
      exact this
    by_cases h1:(l[i].f0.size:Int)≥(p.size:Int)
    · refine ev_if h1 (ev_if (by omega) (ev_if (by omega) ?_))
      by_cases h2:l[i].f0.data.toList.take p.size=p.data.toList
      · refine ev_if (hc.2 h2) (ev_if (by omega) ?_)
        have h:pfx p l[i].f0=true:=by unfold pfx;rw [decide_eq_true (by omega),h2];simp
        have:=ih (i + 1) (q ++ [l[i]]) (by omega) (by simp;omega)
        rw [List.append_assoc] at this
        rw [frm_yes h]
        exact this
      · refine ev_ifn (fun c=> h2 (hc.1 c)) (hno ?_)
        unfold pfx
        simp [h2]
    · refine ev_ifn h1 (hno ?_)
      unfold pfx
      rw [decide_eq_false (by omega)]
      simp
theorem frm_ref {l:List KV} (hl:l.length≤1000) (p:ByteArray):Ev (fun n=> batonref04_From.f n l p) (frm p l):=by
  have:=frmr_l p l hl l.length 0 [] (by omega) (by simp)
  unfold batonref04_From.f
  simpa using this
theorem mayr_l (l:List KV) (hl:l.length≤1000) (d:Nat):∀(i:Nat) (hi:i < l.length),l.length=i + 1 + d→Ev (fun n=> batonref04_May.l0 n l ((i + 1:Nat):Int)) (mayF (l[i]'hi).f0 (l.drop (i + 1))):=by
  induction d with
  |zero=>
    intro i hi hd
    refine Ev.step (fun n=> by apply batonref04_May.l0.eq_2) (ev_ifn (by omega) (ev_now ?_))
    rw [List.drop_of_length_le (by omega)]
    rfl
  |succ d ih=>
    intro i hi hd
    have hlt:i + 1 < l.length:=by omega
    have e:wrap64 (((i + 1:Nat):Int) - 1)=(i:Int):=by rw [w64 (by omega) (by omega)];omega
    rw [List.drop_eq_getElem_cons hlt]
    refine Ev.step (fun n=> by apply batonref04_May.l0.eq_2) (ev_if (by omega) (ev_if (by omega) ?_))
    rw [rd hlt,nx (by omega),e,rd hi]
    refine ev_b (one_ref _) ?_
    unfold mayF
    by_cases h:one l[i + 1]=true
    · refine ev_if h (ev_if (by omega) (ev_if (by omega) (ev_if (by omega) ?_)))
      rw [h,Bool.true_and]
      by_cases h2:lt l[i].f0 l[i + 1].f0=true
      · refine ev_if h2 ?_
        rw [h2,Bool.true_and]
        exact ih (i + 1) hlt (by omega)
      · refine ev_ifn h2 (ev_now ?_)
        simp only [Bool.not_eq_true] at h2
        rw [h2];rfl
    · refine ev_ifn h (ev_now ?_)
      simp only [Bool.not_eq_true] at h
      rw [h];rfl
theorem may_ref {l:List KV} (hl:l.length≤1000):Ev (fun n=> batonref04_May.f n l) (may l):=by
  unfold batonref04_May.f may
  cases l with
  |nil=> exact Ev.step (fun n=> by apply batonref04_May.l0.eq_2) (ev_ifn (by simp) (ev_now rfl))
  |cons x l=>
    have h0:0 < (x :: l).length:=by simp
    have e0:rd_T26 (x :: l) 0=x:=rd h0
    have hk:=mayr_l (x :: l) hl l.length 0 h0 (by simp only [List.length_cons];omega)
    refine Ev.step (fun n=> by apply batonref04_May.l0.eq_2) (ev_if (by simp only [List.length_cons];omega) (ev_if (by omega) ?_))
    rw [e0,show wrap64 ((0:Int) + 1)=((0 + 1:Nat):Int) by rw [w64 (by omega) (by omega)];rfl]
    refine ev_b (one_ref _) ?_
    unfold mayF
    by_cases h:one x=true
    · refine ev_if h (ev_ifn (by omega) ?_)
      have hs:1≤x.f0.size:=by
        have:=h
        unfold one chk at this
        simp only [Bool.and_eq_true,decide_eq_true_eq] at this
        exact this.1.1.1
      rw [h,lt_empty hs,Bool.true_and,Bool.true_and]
      exact hk
    · refine ev_ifn h (ev_now ?_)
      simp only [Bool.not_eq_true] at h
      rw [h];rfl
end Hist
end Go.Proofs.Ytaebmmjhokjdbaa.PM
