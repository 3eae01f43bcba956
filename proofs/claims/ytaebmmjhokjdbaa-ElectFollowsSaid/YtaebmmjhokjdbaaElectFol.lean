/- Elections in plain Lean: what the reference's printed Follow comes to. -/
import Derived.Test.YtaebmmjhokjdbaaPM27
import Derived.Test.YtaebmmjhokjdbaaElectRef
import Derived.Test.YtaebmmjhokjdbaaElectFl
namespace Go.Proofs.Ytaebmmjhokjdbaa.PM
open Go.RowKit Go.Proofs.YtaebmmjhokjdbaaW.PrintWords Go.Proofs.YtaebmmjhokjdbaaW.PrintLast Go.Proofs.YtaebmmjhokjdbaaW.PrintMore Go.Proofs.Ytaebmmjhokjdbaa.My
set_option linter.unusedVariables false
namespace ElectF
open Hist (out nx rd rde)
theorem viewr_l (es : List EV) (he : es.length ≤ 300) (d : Nat) : ∀ (i : Nat) (l : List KV), es.length = i + d → l.length + d ≤ 390 → Ev (fun n => batonref07_View.l0 n l es (i : Int)) (view l (es.drop i)) := by
  induction d with
  | zero =>
    intro i l hd hl
    refine Ev.step (fun n => by apply batonref07_View.l0.eq_2) ?_
    refine ev_ifn (by omega) (ev_now ?_)
    rw [List.drop_of_length_le (by omega)]
    rfl
  | succ d ih =>
    intro i l hd hl
    have hlt : i < es.length := by omega
    have hs := one1_len l es[i]
    have hk := ih (i + 1) (one1 l es[i]) (by omega) (by omega)
    rw [List.drop_eq_getElem_cons hlt, view_cons]
    refine Ev.step (fun n => by apply batonref07_View.l0.eq_2) ?_
    refine ev_if (by omega) (ev_if (by omega) ?_)
    rw [rde hlt, nx (by omega)]
    unfold one1 at hk ⊢
    by_cases c : es[i].f1 = true
    · rw [if_pos c] at hk ⊢
      exact ev_if c (ev_b (Hist.take_ref (by omega) _) hk)
    · rw [if_neg c] at hk ⊢
      exact ev_ifn c (ev_b (Hist.lay_ref (by omega) _) hk)
theorem view_r {es : List EV} (he : es.length ≤ 300) {l : List KV} (hl : l.length + es.length ≤ 390) : Ev (fun n => batonref07_View.f n l es) (view l es) := viewr_l es he es.length 0 l (by omega) (by omega)
theorem at_drop {E : List EV} {i : Nat} {e : EV} {es : List EV} (h : E.drop i = e :: es) : ∃ hi : i < E.length, E[i] = e := by
  have hi : i < E.length := by
    apply Decidable.byContradiction
    intro c
    rw [List.drop_of_length_le (by omega)] at h
    cases h
  refine ⟨hi, ?_⟩
  rw [List.drop_eq_getElem_cons hi] at h
  exact (List.cons.inj h).1
theorem at_drop2 {E : List EV} {i j : Nat} {e : EV} {es : List EV} (h : E.drop i = e :: es) (hj : i + 1 + j < E.length) : ∃ h2 : j < es.length, E[i + 1 + j] = es[j] := by
  obtain ⟨hi, _⟩ := at_drop h
  rw [List.drop_eq_getElem_cons hi] at h
  obtain ⟨_, h⟩ := List.cons.inj h
  subst h
  refine ⟨by rw [List.length_drop]; omega, ?_⟩
  rw [List.getElem_drop]
theorem folr_j2 {E es : List EV} {i : Nat} {e : EV} {l S : List KV} {R : List KV × List KV} (hE : E.drop i = e :: es) (hE2 : E.length ≤ 200) (hl : l.length + es.length ≤ 300) (hS : S.length ≤ 300)
    (hk : ∀ S', S' = S ++ seen1 l (view l (e :: es.takeWhile (isr e))) → Ev (fun n => batonref17_Follow.l0 n (view l (e :: es.takeWhile (isr e))) E S' ((i + 1 + (es.takeWhile (isr e)).length : Nat) : Int)) R) :
    Ev (fun n => batonref17_Follow.j2 n l E S (i : Int) ((i + 1 + (es.takeWhile (isr e)).length : Nat) : Int)) R := by
  have ht := tw_len (isr e) es
  have hv := view_len (e :: es.takeWhile (isr e)) l
  simp only [List.length_cons] at hv
  have hl2 : es.length + 1 = E.length - i := by rw [← List.length_drop, hE]; rfl
  obtain ⟨hi, _⟩ := at_drop hE
  refine Ev.step (fun n => by apply batonref17_Follow.j2.eq_2) ?_
  refine ev_b (head_r (by omega)) (ev_if (by omega) (ev_if (by omega) (ev_if (by omega) ?_)))
  rw [Int.toNat_natCast, Int.toNat_natCast]
  have e1 : (E.take (i + 1 + (es.takeWhile (isr e)).length)).drop i = e :: es.takeWhile (isr e) := by
    rw [List.drop_take, hE, show i + 1 + (es.takeWhile (isr e)).length - i = (es.takeWhile (isr e)).length.succ by omega, take_tw]
  rw [e1]
  refine ev_b (view_r (by (try simp only [List.length_cons]); omega) (by (try simp only [List.length_cons]); omega)) (ev_b (head_r (by omega)) ?_)
  have hk := hk _ rfl
  rw [seen_out] at hk
  cases c : hdo (view l (e :: es.takeWhile (isr e))) with
  | none =>
    rw [c] at hk
    exact ev_ifn (by simp [out]) hk
  | some x =>
    rw [c] at hk
    dsimp only at hk
    refine ev_if rfl ?_
    cases c2 : hdo l with
    | none =>
      rw [c2, if_neg (by simp)] at hk
      exact ev_ifn (by simp [out]) (ev_if (by omega) hk)
    | some y =>
      rw [c2] at hk
      refine ev_if rfl ?_
      by_cases q : x = y
      · subst q
        rw [if_pos rfl] at hk
        exact ev_ifn (by show ¬ ((!(x.f0.toList == x.f0.toList) || (!(x.f1.toList == x.f1.toList) || (!(x.f2 == x.f2) || (!(x.f3 == x.f3) || (!(x.f4 == x.f4) || (!(x.f5 == x.f5))))))) = true); rw [neq]; simp) hk
      · rw [if_neg (by intro w; exact q (Option.some.inj w).symm)] at hk
        exact ev_if (by show ((!(x.f0.toList == y.f0.toList) || (!(x.f1.toList == y.f1.toList) || (!(x.f2 == y.f2) || (!(x.f3 == y.f3) || (!(x.f4 == y.f4) || (!(x.f5 == y.f5))))))) = true); rw [neq]; simp [q]) (ev_if (by omega) hk)
theorem folr_l1 {E es : List EV} {i : Nat} {e : EV} {l S : List KV} {R : List KV × List KV} (hE : E.drop i = e :: es) (hE2 : E.length ≤ 200) (hj : Ev (fun n => batonref17_Follow.j2 n l E S (i : Int) ((i + 1 + (es.takeWhile (isr e)).length : Nat) : Int)) R) (d : Nat) : ∀ j : Nat, j + d = (es.takeWhile (isr e)).length →
    Ev (fun n => batonref17_Follow.l1 n l E S (i : Int) ((i + 1 + j : Nat) : Int)) R := by
  have ht := tw_len (isr e) es
  have hl2 : es.length + 1 = E.length - i := by rw [← List.length_drop, hE]; rfl
  obtain ⟨hi, hie⟩ := at_drop hE
  induction d with
  | zero =>
    intro j hjd
    obtain rfl : j = (es.takeWhile (isr e)).length := by omega
    refine Ev.step (fun n => by apply batonref17_Follow.l1.eq_2) ?_
    by_cases c : (es.takeWhile (isr e)).length < es.length
    · obtain ⟨h2, h3⟩ := at_drop2 (j := (es.takeWhile (isr e)).length) hE (by omega)
      refine ev_if (by omega) (ev_if (by omega) (ev_if (by omega) (ev_if (by omega) ?_)))
      rw [rde (l := E) (i := i + 1 + (es.takeWhile (isr e)).length) (by omega), rde hi, hie, h3]
      refine ev_ifn ?_ hj
      intro q
      have := (tw_at e es _ c (Nat.le_refl _)).1 q
      omega
    · exact ev_ifn (by omega) hj
  | succ d ih =>
    intro j hjd
    have hlt : j < es.length := by omega
    obtain ⟨h2, h3⟩ := at_drop2 (j := j) hE (by omega)
    refine Ev.step (fun n => by apply batonref17_Follow.l1.eq_2) ?_
    refine ev_if (by omega) (ev_if (by omega) (ev_if (by omega) (ev_if (by omega) ?_)))
    rw [rde (l := E) (i := i + 1 + j) (by omega), rde hi, hie, h3]
    refine ev_if ((tw_at e es j hlt (by omega)).2 (by omega)) ?_
    rw [nx (by omega)]
    exact ih (j + 1) (by omega)
theorem folr_l0 {E : List EV} (hE2 : E.length ≤ 200) : ∀ (m i : Nat) (l S : List KV), E.length ≤ i + m → i ≤ E.length → l.length + (E.length - i) ≤ 300 → S.length + (E.length - i) ≤ 300 → Ev (fun n => batonref17_Follow.l0 n l E S (i : Int)) ((fol l (E.drop i)).1, S ++ (fol l (E.drop i)).2) := by
  intro m
  induction m with
  | zero =>
    intro i l S h hi h3 h4
    rw [List.drop_of_length_le (by omega), fol_nil, List.append_nil]
    exact Ev.step (fun n => by apply batonref17_Follow.l0.eq_2) (ev_ifn (by omega) (ev_now rfl))
  | succ m ih =>
    intro i l S h hi h3 h4
    cases hE : E.drop i with
    | nil =>
      have : E.length ≤ i := List.drop_eq_nil_iff.1 hE
      rw [fol_nil, List.append_nil]
      exact Ev.step (fun n => by apply batonref17_Follow.l0.eq_2) (ev_ifn (by omega) (ev_now rfl))
    | cons e es =>
      have ht := tw_len (isr e) es
      have hl2 : es.length + 1 = E.length - i := by rw [← List.length_drop, hE]; rfl
      have hv := view_len (e :: es.takeWhile (isr e)) l
      simp only [List.length_cons] at hv
      obtain ⟨hi2, hie⟩ := at_drop hE
      refine Ev.step (fun n => by apply batonref17_Follow.l0.eq_2) ?_
      refine ev_if (by omega) ?_
      refine Ev.step (fun n => by apply batonref17_Follow.l1.eq_2) ?_
      refine ev_if (by omega) (ev_if (by omega) (ev_if (by omega) (ev_if (by omega) (ev_if rfl ?_))))
      rw [nx (by omega)]
      refine folr_l1 hE hE2 (folr_j2 hE hE2 (by omega) (by omega) ?_) (es.takeWhile (isr e)).length 0 (by omega)
      intro S' hS'
      have hs1 : (seen1 l (view l (e :: es.takeWhile (isr e)))).length ≤ 1 := by unfold seen1; split; simp; split <;> simp
      have hk := ih (i + 1 + (es.takeWhile (isr e)).length) (view l (e :: es.takeWhile (isr e))) S' (by omega) (by omega) (by omega) (by rw [hS', List.length_append]; omega)
      have e2 : E.drop (i + 1 + (es.takeWhile (isr e)).length) = es.dropWhile (isr e) := by
        rw [show i + 1 + (es.takeWhile (isr e)).length = i + (es.takeWhile (isr e)).length.succ by omega, ← List.drop_drop, hE, drop_tw]
      rw [e2, hS', List.append_assoc] at hk
      rw [fol_cons, hS']
      exact hk
theorem follow_r {es : List EV} (he : es.length ≤ 200) {l : List KV} (hl : l.length + es.length ≤ 300) : Ev (fun n => batonref17_Follow.f n l es) (fol l es) := by
  unfold batonref17_Follow.f
  have := folr_l0 he es.length 0 l [] (by omega) (by omega) (by omega) (by simp only [List.length_nil]; omega)
  simpa using this
end ElectF
end Go.Proofs.Ytaebmmjhokjdbaa.PM
