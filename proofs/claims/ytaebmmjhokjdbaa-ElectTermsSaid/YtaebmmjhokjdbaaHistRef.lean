/- Lists of keys in plain Lean: what the reference takes, lays and folds. -/
import Derived.Test.YtaebmmjhokjdbaaPM27
import Derived.Test.YtaebmmjhokjdbaaPM26
import Derived.Test.YtaebmmjhokjdbaaPM31
import Derived.Test.YtaebmmjhokjdbaaHist
set_option linter.unusedSimpArgs false
namespace Go.Proofs.Ytaebmmjhokjdbaa.PM
open Go.RowKit Go.Proofs.YtaebmmjhokjdbaaW.PrintWords Go.Proofs.YtaebmmjhokjdbaaW.PrintLast Go.Proofs.YtaebmmjhokjdbaaW.PrintMore Go.Proofs.Ytaebmmjhokjdbaa.My
set_option linter.unusedVariables false
namespace Hist
theorem taken_l (k:ByteArray) (l:List KV) (hl:l.length≤1000) (d:Nat):∀(i:Nat) (q:List KV),l.length=i + d→q.length≤i→Ev (fun n=> batonref04_Take.l0 n l k q true (i:Int)) (q ++ l.drop i):=by
  induction d with
  |zero=>
    intro i q hd hq
    refine Ev.step (fun n=> by apply batonref04_Take.l0.eq_2) (ev_ifn (by omega) (ev_now ?_))
    rw [List.drop_of_length_le (by omega)]
    simp
  |succ d ih=>
    intro i q hd hq
    have hlt:i < l.length:=by omega
    rw [List.drop_eq_getElem_cons hlt]
    refine Ev.step (fun n=> by apply batonref04_Take.l0.eq_2) (ev_if (by omega) (ev_if rfl (ev_if (by omega) (ev_if (by omega) ?_))))
    rw [rd hlt,nx (by omega)]
    have:=ih (i + 1) (q ++ [l[i]]) (by omega) (by simp;omega)
    rw [List.append_assoc] at this
    exact this
theorem take_l (k:ByteArray) (l:List KV) (hl:l.length≤1000) (d:Nat):∀(i:Nat) (q:List KV),l.length=i + d→q.length≤i→Ev (fun n=> batonref04_Take.l0 n l k q false (i:Int)) (q ++ take k (l.drop i)):=by
  induction d with
  |zero=>
    intro i q hd hq
    refine Ev.step (fun n=> by apply batonref04_Take.l0.eq_2) (ev_ifn (by omega) (ev_now ?_))
    rw [List.drop_of_length_le (by omega)]
    simp [take]
  |succ d ih=>
    intro i q hd hq
    have hlt:i < l.length:=by omega
    rw [List.drop_eq_getElem_cons hlt]
    refine Ev.step (fun n=> by apply batonref04_Take.l0.eq_2) (ev_if (by omega) (ev_ifn (by decide) (ev_if (by omega) ?_)))
    rw [rd hlt,nx (by omega)]
    unfold take
    by_cases h:l[i].f0=k
    · refine ev_if (by rw [h]) ?_
      rw [if_pos h]
      exact taken_l k l hl d (i + 1) q (by omega) (by omega)
    · refine ev_ifn (fun c=> h (tli.1 c)) (ev_if (by omega) ?_)
      rw [if_neg h]
      have:=ih (i + 1) (q ++ [l[i]]) (by omega) (by simp;omega)
      rw [List.append_assoc] at this
      exact this
theorem take_ref {l:List KV} (hl:l.length≤1000) (k:ByteArray):Ev (fun n=> batonref04_Take.f n l k) (take k l):=by
  have:=take_l k l hl l.length 0 [] (by omega) (by simp)
  unfold batonref04_Take.f
  simpa using this
theorem layr_l (x:KV) (l:List KV) (hl:l.length≤1000) (d:Nat):∀(i:Nat),l.length=i + d→Ev (fun n=> batonref04_Lay.l0 n l (i:Int) x.f0 x.f1 x.f2 x.f3 x.f4 x.f5) (l.take i ++ lay x (l.drop i)):=by
  induction d with
  |zero=>
    intro i hd
    refine Ev.step (fun n=> by apply batonref04_Lay.l0.eq_2) (ev_ifn (by omega) (ev_c rfl (ev_if (by omega) (ev_if (by omega) (ev_c rfl (ev_if (by simp;omega) (ev_c rfl (ev_if (by simp;omega) (ev_c rfl (ev_c rfl (ev_if (by simp;omega) (ev_now ?_))))))))))))
    rw [Int.toNat_natCast,List.drop_of_length_le (by omega)]
    simp [lay]
  |succ d ih=>
    intro i hd
    have hlt:i < l.length:=by omega
    have ht:l.take (i + 1)=l.take i ++ [l[i]]:=List.take_succ_eq_append_getElem hlt
    have hk:=ih (i + 1) (by omega)
    rw [ht,List.append_assoc] at hk
    rw [List.drop_eq_getElem_cons hlt]
    refine Ev.step (fun n=> by apply batonref04_Lay.l0.eq_2) (ev_if (by omega) (ev_if (by omega) ?_))
    rw [rd hlt,nx (by omega)]
    unfold lay
    by_cases h:lt l[i].f0 x.f0=true
    · refine ev_if h ?_
      rw [if_pos h]
      exact hk
    · refine ev_ifn h (ev_c rfl (ev_if (by omega) (ev_c rfl (ev_if (by simp;omega) (ev_c rfl (ev_if (by simp;omega) (ev_c rfl ?_)))))))
      rw [if_neg h]
      by_cases h2:l[i].f0=x.f0
      · refine ev_if (by rw [h2]) (ev_if (by omega) (ev_if (by omega) (ev_c rfl (ev_if (by simp;omega) (ev_now ?_)))))
        rw [if_pos h2,Int.toNat_natCast,Int.toNat_natCast]
        simp
      · refine ev_ifn (fun c=> h2 (tli.1 c)) (ev_c rfl (ev_if (by simp;omega) (ev_now ?_)))
        rw [if_neg h2,Int.toNat_natCast,List.drop_eq_getElem_cons hlt]
        simp
theorem lay_ref {l:List KV} (hl:l.length≤1000) (x:KV):Ev (fun n=> batonref04_Lay.f n l x.f0 x.f1 x.f2 x.f3 x.f4 x.f5) (lay x l):=by
  have:=layr_l x l hl l.length 0 (by omega)
  unfold batonref04_Lay.f
  simpa using this
theorem foldr_l (rev:Int) (log:List EV) (hg:log.length≤500) (d:Nat):∀(i:Nat) (l:List KV),log.length=i + d→l.length≤400 + i→Ev (fun n=> batonref04_Fold.l0 n l log rev (i:Int)) (fold rev l (log.drop i)):=by
  induction d with
  |zero=>
    intro i l hd hl
    refine Ev.step (fun n=> by apply batonref04_Fold.l0.eq_2) (ev_ifn (by omega) (ev_now ?_))
    rw [List.drop_of_length_le (by omega)]
    rfl
  |succ d ih=>
    intro i l hd hl
    have hlt:i < log.length:=by omega
    have hs:=step_len rev l log[i]
    have hk:=ih (i + 1) (step rev l log[i]) (by omega) (by omega)
    rw [List.drop_eq_getElem_cons hlt]
    show Ev _ (fold rev (step rev l log[i]) (log.drop (i + 1)))
    refine Ev.step (fun n=> by apply batonref04_Fold.l0.eq_2) (ev_if (by omega) (ev_if (by omega) ?_))
    rw [rde hlt,nx (by omega)]
    unfold step at hk⊢
    by_cases h:log[i].f0 > rev
    · rw [if_pos h] at hk⊢
      exact ev_if h hk
    · rw [if_neg h] at hk⊢
      refine ev_ifn h ?_
      by_cases h2:log[i].f1=true
      · rw [if_pos h2] at hk⊢
        exact ev_if h2 (ev_b (take_ref (by omega) _) hk)
      · rw [if_neg h2] at hk⊢
        exact ev_ifn h2 (ev_b (lay_ref (by omega) _) hk)
theorem fold_ref (rev:Int) {log:List EV} (hg:log.length≤500) {l:List KV} (hl:l.length≤400):Ev (fun n=> batonref04_Fold.f n l log rev) (fold rev l log):=foldr_l rev log hg log.length 0 l (by omega) (by omega)
end Hist
end Go.Proofs.Ytaebmmjhokjdbaa.PM
