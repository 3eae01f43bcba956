/- Tickets in plain Lean: what the references' printed functions come to: who is ready. -/
import Derived.Test.YtjhfidafeeiogaaPM19
import Derived.Test.YtjhfidafeeiogaaTicketRef
namespace Go.Proofs.Ytjhfidafeeiogaa.PM
open Go.RowKit Go.Proofs.YtjhfidafeeiogaaW.PrintWords Go.Proofs.YtjhfidafeeiogaaW.PrintLast Go.Proofs.YtjhfidafeeiogaaW.PrintMore Go.Proofs.Ytjhfidafeeiogaa.My
set_option linter.unusedVariables false
namespace TicketF
open SortT SortF
theorem ww_l : ww.toList = [119] := by rw [tl]; rfl
theorem now_l {A : List KV} (hA : A.length ≤ 1000) (d : Nat) : ∀ i : Nat, A.length = i + d → Ev (fun n => batonref15_Ready.l0 n A (i : Int)) (!((A.drop i).any (fun x => decide (x.f1 = ww)))) := by
  induction d with
  | zero =>
    intro i hd
    refine Ev.step (fun n => by apply batonref15_Ready.l0.eq_2) (ev_ifn (by omega) (ev_now ?_))
    rw [List.drop_of_length_le (by omega)]
    rfl
  | succ d ih =>
    intro i hd
    have hlt : i < A.length := by omega
    refine Ev.step (fun n => by apply batonref15_Ready.l0.eq_2) (ev_if (by omega) (ev_if (by omega) ?_))
    rw [rd hlt, nx (by omega), List.drop_eq_getElem_cons hlt, List.any_cons]
    by_cases c : A[i].f1 = ww
    · refine ev_if (by rw [c, ww_l]) (ev_now ?_)
      rw [decide_eq_true c]
      rfl
    · refine ev_ifn (fun e => c (tli.1 (e.trans ww_l.symm))) ?_
      rw [decide_eq_false c, Bool.false_or]
      exact ih (i + 1) (by omega)
theorem rdyR (kind n : Int) {A : List KV} (hA : A.length ≤ 1000) (b : Bool) (hb : b = decide (kind = 1 ∨ kind = 3 ∨ kind = 5)) : Ev (fun q => batonref15_Ready.j0 q n A kind b) (rdy kind n A) := by
  refine Ev.step (fun q => by apply batonref15_Ready.j0.eq_2) ?_
  unfold rdy
  by_cases h : kind = 1 ∨ kind = 3 ∨ kind = 5
  · rw [if_pos h]
    refine ev_if (by rw [hb]; exact decide_eq_true h) (ev_now ?_)
    cases A <;> simp
    omega
  · rw [if_neg h]
    refine ev_ifn (by rw [hb]; simpa using h) ?_
    by_cases h4 : kind = 4
    · refine ev_if h4 (ev_now ?_)
      rw [if_neg (by omega), if_pos h4]
    · refine ev_ifn h4 ?_
      by_cases h2 : kind = 2
      · refine ev_if h2 ?_
        rw [if_pos h2]
        exact now_l hA A.length 0 (by omega)
      · refine ev_ifn h2 (ev_now ?_)
        rw [if_neg h2, if_neg h4]
theorem ready_r (kind n : Int) {l : List KV} (h : l.length ≤ 1000) (k : ByteArray) : Ev (fun q => batonref15_Ready.f q kind n l k) (ready kind n l k) := by
  unfold batonref15_Ready.f ready
  refine ev_b (place_r h k) ?_
  by_cases hh : has k l = true
  · refine ev_ifn (by rw [plc_neg, hh]; decide) (ev_b (ahead_r h k) ?_)
    have e2 := ahead_le k l
    rw [hh, Bool.true_and]
    have ha : ahead k l = hd k (ord l) := by unfold ahead; rw [if_pos hh]
    rw [ha] at e2 ⊢
    by_cases h1 : kind = 1
    · exact ev_if h1 (rdyR _ _ (by omega) _ (by simp [h1]))
    · refine ev_ifn h1 ?_
      by_cases h3 : kind = 3
      · exact ev_if h3 (rdyR _ _ (by omega) _ (by simp [h3]))
      · refine ev_ifn h3 (rdyR _ _ (by omega) _ ?_)
        rw [Bool.eq_iff_iff]
        simp [h1, h3]
  · simp only [Bool.not_eq_true] at hh
    refine ev_if ((plc_neg k l).2 hh) (ev_now ?_)
    rw [hh, Bool.false_and]
theorem in_l (k : ByteArray) {q : List ByteArray} (hq : q.length ≤ 1000) (d : Nat) : ∀ i : Nat, q.length = i + d → Ev (fun n => batonref15_In.l0 n q k (i : Int)) (decide (k ∈ q.drop i)) := by
  induction d with
  | zero =>
    intro i hd
    refine Ev.step (fun n => by apply batonref15_In.l0.eq_2) (ev_ifn (by omega) (ev_now ?_))
    rw [List.drop_of_length_le (by omega)]
    simp
  | succ d ih =>
    intro i hd
    have hlt : i < q.length := by omega
    refine Ev.step (fun n => by apply batonref15_In.l0.eq_2) (ev_if (by omega) (ev_if (by omega) ?_))
    rw [rdb hlt, nx (by omega), List.drop_eq_getElem_cons hlt]
    by_cases c : q[i] = k
    · refine ev_if (by rw [c]) (ev_now ?_)
      symm
      rw [decide_eq_true_iff, c]
      exact List.mem_cons_self
    · refine ev_ifn (fun e => c (tli.1 e)) ?_
      rw [show decide (k ∈ q[i] :: q.drop (i + 1)) = decide (k ∈ q.drop (i + 1)) by rw [decide_eq_decide, List.mem_cons]; exact ⟨fun h => h.resolve_left (fun e => c e.symm), Or.inr⟩]
      exact ih (i + 1) (by omega)
theorem in_f (k : ByteArray) {q : List ByteArray} (hq : q.length ≤ 1000) : Ev (fun n => batonref15_In.f n q k) (decide (k ∈ q)) := in_l k hq q.length 0 (by omega)
theorem holders_lr (kind n : Int) {l : List KV} (h : l.length ≤ 1000) (s : List KV) (hs : s.length ≤ 1000) (d : Nat) : ∀ (i : Nat) (q : List ByteArray), s.length = i + d → q.length ≤ i → Ev (fun r => batonref15_Holders.l0 r kind n l s q (i : Int)) (hfold (ready kind n l) (s.drop i) q) := by
  induction d with
  | zero =>
    intro i q hd hq
    refine Ev.step (fun r => by apply batonref15_Holders.l0.eq_2) (ev_ifn (by omega) (ev_now ?_))
    rw [List.drop_of_length_le (by omega)]
    rfl
  | succ d ih =>
    intro i q hd hq
    have hlt : i < s.length := by omega
    rw [List.drop_eq_getElem_cons hlt]
    show Ev _ (hfold (ready kind n l) (s.drop (i + 1)) (hstep (ready kind n l) q s[i]))
    refine Ev.step (fun r => by apply batonref15_Holders.l0.eq_2) (ev_if (by omega) (ev_if (by omega) ?_))
    rw [rd hlt, nx (by omega)]
    unfold hstep
    refine ev_b (ready_r kind n h s[i].f0) ?_
    by_cases c2 : ready kind n l s[i].f0 = true
    · refine ev_if c2 (ev_b (in_f s[i].f0 (by omega)) ?_)
      rw [if_pos c2]
      by_cases c : s[i].f0 ∈ q
      · rw [if_pos c]
        exact ev_if (decide_eq_true c) (ih (i + 1) q (by omega) (by omega))
      · rw [if_neg c]
        exact ev_ifn (by simpa using c) (ev_if (by omega) (ih (i + 1) _ (by omega) (by simp; omega)))
    · refine ev_ifn c2 ?_
      rw [if_neg c2, ite_self]
      exact ih (i + 1) q (by omega) (by omega)
theorem holders_r (kind n : Int) {l : List KV} (h : l.length ≤ 1000) : Ev (fun r => batonref15_Holders.f r kind n l) (holders kind n l) := by
  unfold batonref15_Holders.f
  refine ev_b (order_r h) ?_
  exact holders_lr kind n h (ord l) (by rw [ord_len]; omega) (ord l).length 0 [] (by omega) (by simp)
theorem texts_l {q : List ByteArray} (hq : q.length ≤ 1000) (d : Nat) : ∀ i : Nat, q.length = i + d → Ev (fun n => batonref15_Texts.l0 n q q (i : Int)) true := by
  induction d with
  | zero =>
    intro i hd
    exact Ev.step (fun n => by apply batonref15_Texts.l0.eq_2) (ev_ifn (by omega) (ev_now rfl))
  | succ d ih =>
    intro i hd
    refine Ev.step (fun n => by apply batonref15_Texts.l0.eq_2) (ev_if (by omega) (ev_if (by omega) (ev_if (by omega) (ev_if rfl ?_))))
    rw [nx (by omega)]
    exact ih (i + 1) (by omega)
theorem texts_f {q : List ByteArray} (hq : q.length ≤ 1000) : Ev (fun n => batonref15_Texts.f n q q) true := by
  unfold batonref15_Texts.f
  exact ev_if rfl (texts_l hq q.length 0 (by omega))
theorem sign_eq (kind : Int) : ∃ s, ticket_Sign.f kind = some s ∧ batonref15_Sign.f kind = some s := by
  unfold ticket_Sign.f batonref15_Sign.f
  by_cases h2 : kind = 2
  · exact ⟨_, by rw [if_pos h2], by rw [if_pos h2]⟩
  · by_cases h3 : kind = 3
    · exact ⟨_, by rw [if_neg h2, if_pos h3], by rw [if_neg h2, if_pos h3]⟩
    · exact ⟨_, by rw [if_neg h2, if_neg h3], by rw [if_neg h2, if_neg h3]⟩
end TicketF
end Go.Proofs.Ytjhfidafeeiogaa.PM
