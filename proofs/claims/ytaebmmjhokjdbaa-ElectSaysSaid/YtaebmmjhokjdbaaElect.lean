/- Elections in plain Lean: what the printed functions of elect come to. -/
import Derived.Test.YtaebmmjhokjdbaaPM12
import Derived.Test.YtaebmmjhokjdbaaPM16
import Derived.Test.YtaebmmjhokjdbaaPM20
import Derived.Test.YtaebmmjhokjdbaaFollow
namespace Go.Proofs.Ytaebmmjhokjdbaa.PM
open Go.RowKit Go.Proofs.YtaebmmjhokjdbaaW.PrintWords Go.Proofs.YtaebmmjhokjdbaaW.PrintLast Go.Proofs.YtaebmmjhokjdbaaW.PrintMore Go.Proofs.Ytaebmmjhokjdbaa.My
set_option linter.unusedVariables false
namespace ElectF
open Hist (out nx rd rde)
theorem head_f {l : List KV} (h : l.length ≤ 20) : elect_Head.f l = some (out (hdo l)) := by
  unfold elect_Head.f
  rw [show ticket_Order.f l = some (ord l) by unfold ticket_Order.f; rw [if_pos h]; rfl]
  show (if ((ord l).length : Int) = 0 then _ else _) = _
  unfold hdo
  cases e : ord l with
  | nil => rfl
  | cons x q =>
    rw [if_neg (by (try simp only [List.length_cons]); omega), if_pos (by (try simp only [List.length_cons]); omega)]
    rfl
theorem of_f {l : List KV} (h : l.length ≤ 20) : elect_of.f l = some (out (hdo l)) := by
  unfold elect_of.f
  rw [head_f h]
  rfl
theorem clone_f {l : List KV} (h : l.length ≤ 1000) : api_KV_36.f l = some l := if_pos (by omega)
theorem view_l (es : List EV) (he : es.length ≤ 300) (d : Nat) : ∀ (i : Nat) (l : List KV), es.length = i + d → l.length + d ≤ 390 → Ev (fun n => watch_View.l0 n l es (es.length : Int) (i : Int)) (view l (es.drop i)) := by
  induction d with
  | zero =>
    intro i l hd hl
    refine Ev.step (fun n => by apply watch_View.l0.eq_2) ?_
    refine ev_ifn (by omega) (ev_c (clone_f (by omega)) (ev_now ?_))
    rw [List.drop_of_length_le (by omega)]
    rfl
  | succ d ih =>
    intro i l hd hl
    have hlt : i < es.length := by omega
    have hs := one1_len l es[i]
    have hk := ih (i + 1) (one1 l es[i]) (by omega) (by omega)
    rw [List.drop_eq_getElem_cons hlt, view_cons]
    refine Ev.step (fun n => by apply watch_View.l0.eq_2) ?_
    refine ev_if (by omega) (ev_if (by omega) (ev_if (by omega) ?_))
    rw [rde hlt, nx (by omega)]
    have hf := Hist.fold_f es[i].f0 (log := [es[i]]) (by simp) (l := l) (by omega)
    rw [one1_fold] at hf
    exact ev_b hf hk
theorem view_f {es : List EV} (he : es.length ≤ 300) {l : List KV} (hl : l.length + es.length ≤ 390) : Ev (fun n => watch_View.f n l es) (view l es) := view_l es he es.length 0 l (by omega) (by omega)
/-- Are two things unlike, field by field? -/
theorem neq (x y : KV) : (!(x.f0.toList == y.f0.toList) || (!(x.f1.toList == y.f1.toList) || (!(x.f2 == y.f2) || (!(x.f3 == y.f3) || (!(x.f4 == y.f4) || (!(x.f5 == y.f5))))))) = !decide (x = y) := by
  by_cases h : x = y
  · subst h
    simp
  · rw [decide_eq_false h]
    cases e : (!(x.f0.toList == y.f0.toList) || (!(x.f1.toList == y.f1.toList) || (!(x.f2 == y.f2) || (!(x.f3 == y.f3) || (!(x.f4 == y.f4) || (!(x.f5 == y.f5))))))) with
    | true => rfl
    | false =>
      exfalso
      apply h
      simp only [Bool.or_eq_false_iff, Bool.not_eq_false', beq_iff_eq] at e
      obtain ⟨h0, h1, h2, h3, h4, h5⟩ := e
      obtain ⟨x0, x1, x2, x3, x4, x5⟩ := x
      obtain ⟨y0, y1, y2, y3, y4, y5⟩ := y
      simp only at h0 h1 h2 h3 h4 h5
      rw [Hist.tli] at h0 h1
      subst h0; subst h1; subst h2; subst h3; subst h4; subst h5
      rfl
theorem take_tw (e : EV) (es : List EV) : (e :: es).take (es.takeWhile (isr e)).length.succ = e :: es.takeWhile (isr e) := by
  rw [List.take_succ_cons]
  congr 1
  conv => lhs; rw [← tw_dw (isr e) es]
  rw [List.take_left']
  rw [tw_dw]
theorem drop_tw (e : EV) (es : List EV) : (e :: es).drop (es.takeWhile (isr e)).length.succ = es.dropWhile (isr e) := by
  rw [List.drop_succ_cons]
  conv => lhs; rw [← tw_dw (isr e) es]
  rw [List.drop_left']
  rw [tw_dw]
theorem tw_len (p : EV → Bool) (es : List EV) : (es.takeWhile p).length + (es.dropWhile p).length = es.length := by
  rw [← List.length_append, tw_dw]
theorem dw_head (p : EV → Bool) : ∀ (es : List EV) {z : EV} {q : List EV}, es.dropWhile p = z :: q → ¬ p z = true
  | [], _, _, h => by simp at h
  | x :: es, z, q, h => by
    rw [List.dropWhile_cons] at h
    split at h
    · exact dw_head p es h
    · rename_i c
      obtain ⟨rfl, _⟩ := List.cons.inj h
      exact c
/-- How far events are of one revision. -/
theorem tw_at (e : EV) (es : List EV) (i : Nat) (h : i < es.length) (hi : i ≤ (es.takeWhile (isr e)).length) : es[i].f0 = e.f0 ↔ i < (es.takeWhile (isr e)).length := by
  constructor
  · intro c
    apply Decidable.byContradiction
    intro q
    have hi : i = (es.takeWhile (isr e)).length := by omega
    have e1 : es[i]? = (es.dropWhile (isr e)).head? := by
      conv => lhs; rw [← tw_dw (isr e) es]
      rw [List.getElem?_append_right (by omega), hi, Nat.sub_self, List.head?_eq_getElem?]
    rw [List.getElem?_eq_getElem h] at e1
    cases hD : es.dropWhile (isr e) with
    | nil => rw [hD] at e1; cases e1
    | cons z r =>
      rw [hD] at e1
      have e2 : es[i] = z := Option.some.inj e1
      have := dw_head _ es hD
      apply this
      unfold isr
      rw [← e2]
      exact decide_eq_true c
  · intro c
    have e1 : es[i]? = (es.takeWhile (isr e))[i]? := by
      conv => lhs; rw [← tw_dw (isr e) es]
      rw [List.getElem?_append_left c]
    rw [List.getElem?_eq_getElem h, List.getElem?_eq_getElem c] at e1
    rw [Option.some.inj e1]
    have := List.all_eq_true.1 List.all_takeWhile _ (List.getElem_mem c)
    unfold isr at this
    exact of_decide_eq_true this
theorem seen_out {l l' : List KV} (S : List KV) : S ++ seen1 l l' = match hdo l' with
  | none => S
  | some x => if hdo l = some x then S else S ++ [x] := by
  unfold seen1
  cases hdo l' with
  | none => simp
  | some x =>
    simp only
    split <;> simp
theorem fol_j2 {es : List EV} {e : EV} {l S : List KV} {R : List KV × List KV} (he : es.length ≤ 200) (hl : l.length + es.length ≤ 300) (hA : l.length ≤ 20) (hB : (view l (e :: es.takeWhile (isr e))).length ≤ 20) (hS : S.length ≤ 300)
    (hk : ∀ S', S' = S ++ seen1 l (view l (e :: es.takeWhile (isr e))) → Ev (fun n => elect_Follow.l0 n (view l (e :: es.takeWhile (isr e))) (es.dropWhile (isr e)) S') R) :
    Ev (fun n => elect_Follow.j2 n l (e :: es) S (((es.takeWhile (isr e)).length + 1 : Nat) : Int)) R := by
  have ht := tw_len (isr e) es
  have hv := view_len (e :: es.takeWhile (isr e)) l
  simp only [List.length_cons] at hv
  refine Ev.step (fun n => by apply elect_Follow.j2.eq_2) ?_
  refine ev_c (of_f (by omega)) (ev_if (by omega) (ev_if (by (try simp only [List.length_cons]); omega) ?_))
  rw [Int.toNat_natCast, take_tw, drop_tw]
  refine ev_b (view_f (by (try simp only [List.length_cons]); omega) (by (try simp only [List.length_cons]); omega)) (ev_c (of_f (by omega)) ?_)
  have hk := hk _ rfl
  rw [seen_out] at hk
  cases c : hdo (view l (e :: es.takeWhile (isr e))) with
  | none =>
    rw [c] at hk
    exact ev_ifn (by simp [out]) hk
  | some x =>
    rw [c] at hk
    dsimp only at hk
    refine ev_if rfl ?_
    cases c2 : hdo l with
    | none =>
      rw [c2, if_neg (by simp)] at hk
      exact ev_if (by simp [out]) (ev_if (by omega) hk)
    | some y =>
      rw [c2] at hk
      have hn : ((!(x.f0.toList == y.f0.toList) || (!(x.f1.toList == y.f1.toList) || (!(x.f2 == y.f2) || (!(x.f3 == y.f3) || (!(x.f4 == y.f4) || (!(x.f5 == y.f5))))))) || (!(true == true))) = !decide (x = y) := by rw [neq]; simp
      by_cases q : x = y
      · subst q
        rw [if_pos rfl] at hk
        exact ev_ifn (by show ¬ (((!(x.f0.toList == x.f0.toList) || (!(x.f1.toList == x.f1.toList) || (!(x.f2 == x.f2) || (!(x.f3 == x.f3) || (!(x.f4 == x.f4) || (!(x.f5 == x.f5))))))) || (!(true == true))) = true); rw [hn]; simp) hk
      · rw [if_neg (by intro w; exact q (Option.some.inj w).symm)] at hk
        exact ev_if (by show (((!(x.f0.toList == y.f0.toList) || (!(x.f1.toList == y.f1.toList) || (!(x.f2 == y.f2) || (!(x.f3 == y.f3) || (!(x.f4 == y.f4) || (!(x.f5 == y.f5))))))) || (!(true == true))) = true); rw [hn]; simp [q]) (ev_if (by omega) hk)
theorem fol_l1 {es : List EV} {e : EV} {l S : List KV} {R : List KV × List KV} (he : es.length ≤ 200) (hj : Ev (fun n => elect_Follow.j2 n l (e :: es) S (((es.takeWhile (isr e)).length + 1 : Nat) : Int)) R) (d : Nat) : ∀ i : Nat, i + d = (es.takeWhile (isr e)).length →
    Ev (fun n => elect_Follow.l1 n l (e :: es) S ((i + 1 : Nat) : Int)) R := by
  have ht := tw_len (isr e) es
  induction d with
  | zero =>
    intro i hi
    obtain rfl : i = (es.takeWhile (isr e)).length := by omega
    refine Ev.step (fun n => by apply elect_Follow.l1.eq_2) ?_
    by_cases c : (es.takeWhile (isr e)).length < es.length
    · refine ev_if (by (try simp only [List.length_cons]); omega) (ev_if (by omega) (ev_if (by (try simp only [List.length_cons]); omega) ?_))
      rw [rde (l := e :: es) (i := (es.takeWhile (isr e)).length + 1) (by (try simp only [List.length_cons]); omega), show ((0 : Int)) = ((0 : Nat) : Int) from rfl, rde (l := e :: es) (i := 0) (by simp)]
      refine ev_ifn ?_ hj
      simp only [List.getElem_cons_succ, List.getElem_cons_zero]
      intro q
      have := (tw_at e es _ c (Nat.le_refl _)).1 q
      omega
    · exact ev_ifn (by (try simp only [List.length_cons]); omega) hj
  | succ d ih =>
    intro i hi
    have hlt : i < es.length := by omega
    refine Ev.step (fun n => by apply elect_Follow.l1.eq_2) ?_
    refine ev_if (by (try simp only [List.length_cons]); omega) (ev_if (by omega) (ev_if (by (try simp only [List.length_cons]); omega) ?_))
    rw [rde (l := e :: es) (i := i + 1) (by (try simp only [List.length_cons]); omega), show ((0 : Int)) = ((0 : Nat) : Int) from rfl, rde (l := e :: es) (i := 0) (by simp)]
    refine ev_if ?_ ?_
    · simp only [List.getElem_cons_succ, List.getElem_cons_zero]
      exact (tw_at e es i hlt (by omega)).2 (by omega)
    · rw [nx (by omega)]
      exact ih (i + 1) (by omega)
/-! terms -/
theorem cptF_len : ∀ (l : List KV) (p : Int), (cptF p l).length ≤ l.length
  | [], p => Nat.le_refl _
  | x :: l, p => by
    rw [cptF]
    have h1 := cptF_len l p
    have h2 := cptF_len l x.f2
    split <;> simp only [List.length_cons] <;> omega
theorem cpt_len (l : List KV) : (cpt l).length ≤ l.length := by
  cases l with
  | nil => exact Nat.le_refl _
  | cons x l =>
    have := cptF_len l x.f2
    simp only [cpt, List.length_cons]
    omega
theorem t1_f (x y : KV) : elect_Terms_1.f x.f0 x.f1 x.f2 x.f3 x.f4 x.f5 y.f0 y.f1 y.f2 y.f3 y.f4 y.f5 = some (x.f2 == y.f2) := rfl
theorem pv {i : Nat} (h : i ≤ 2000) : wrap64 (((i + 1 : Nat) : Int) - 1) = ((i : Nat) : Int) := by rw [w64 (by omega) (by omega)]; omega
theorem cmp_l1 {y : List KV} (hy : y.length ≤ 1000) (d : Nat) : ∀ (i k : Nat) (x : List KV), (hi : i < y.length) → y.length = i + 1 + d → k + d ≤ x.length → x.length ≤ 1000 →
    Ev (fun n => api_KV_35.l1 n x (k : Int) y ((i + 1 : Nat) : Int)) (x.take k ++ cptF (y[i]'hi).f2 (y.drop (i + 1))) := by
  induction d with
  | zero =>
    intro i k x hi hd hk hx
    refine Ev.step (fun n => by apply api_KV_35.l1.eq_2) ?_
    refine ev_ifn (by omega) (ev_if (by omega) (ev_if (by omega) (ev_now ?_)))
    rw [Int.toNat_natCast, List.drop_of_length_le (by omega)]
    simp [cptF]
  | succ d ih =>
    intro i k x hi hd hk hx
    have hlt : i + 1 < y.length := by omega
    refine Ev.step (fun n => by apply api_KV_35.l1.eq_2) ?_
    refine ev_if (by omega) (ev_if (by omega) ?_)
    rw [pv (by omega)]
    refine ev_if (by omega) (ev_if (by omega) ?_)
    rw [rd hlt, rd hi]
    refine ev_c (t1_f _ _) ?_
    rw [List.drop_eq_getElem_cons hlt, cptF, nx (by omega)]
    by_cases c : y[i + 1].f2 = y[i].f2
    · rw [if_pos c]
      refine ev_if (by rw [beq_iff_eq]; exact c) ?_
      rw [← c]
      exact ih (i + 1) k x hlt (by omega) (by omega) hx
    · rw [if_neg c]
      refine ev_ifn (by rw [beq_iff_eq]; exact c) (ev_if (by omega) (ev_if (by omega) ?_))
      rw [Int.toNat_natCast, nx (by omega)]
      have hk2 := ih (i + 1) (k + 1) (x.set k y[i + 1]) hlt (by omega) (by rw [List.length_set]; omega) (by rw [List.length_set]; omega)
      have e : (x.set k y[i + 1]).take (k + 1) = x.take k ++ [y[i + 1]] := by
        rw [List.take_succ_eq_append_getElem (by rw [List.length_set]; omega), List.getElem_set_self, List.take_set_of_le (Nat.le_refl _)]
      rw [e, List.append_assoc] at hk2
      exact hk2
theorem cmp_l0 {l : List KV} (hl : l.length ≤ 1000) (d : Nat) : ∀ (i : Nat) (hi : i < l.length), l.length = i + 1 + d → Ev (fun n => api_KV_35.l0 n l ((i + 1 : Nat) : Int)) (l.take (i + 1) ++ cptF (l[i]'hi).f2 (l.drop (i + 1))) := by
  induction d with
  | zero =>
    intro i hi hd
    refine Ev.step (fun n => by apply api_KV_35.l0.eq_2) ?_
    refine ev_ifn (by omega) (ev_now ?_)
    rw [List.drop_of_length_le (by omega), List.take_of_length_le (by omega)]
    simp [cptF]
  | succ d ih =>
    intro i hi hd
    have hlt : i + 1 < l.length := by omega
    refine Ev.step (fun n => by apply api_KV_35.l0.eq_2) ?_
    refine ev_if (by omega) (ev_if (by omega) ?_)
    rw [pv (by omega)]
    refine ev_if (by omega) (ev_if (by omega) ?_)
    rw [rd hlt, rd hi]
    refine ev_c (t1_f _ _) ?_
    rw [List.drop_eq_getElem_cons hlt, cptF]
    by_cases c : l[i + 1].f2 = l[i].f2
    · rw [if_pos c]
      refine ev_if (by rw [beq_iff_eq]; exact c) (ev_if (by omega) ?_)
      rw [Int.toNat_natCast]
      have hk := cmp_l1 (y := l.drop (i + 1)) (by rw [List.length_drop]; omega) d 0 (i + 1) l (by rw [List.length_drop]; omega) (by rw [List.length_drop]; omega) (by omega) hl
      rw [List.getElem_drop, List.drop_drop] at hk
      simp only [Nat.add_zero, Nat.zero_add] at hk
      rw [c] at hk
      exact hk
    · rw [if_neg c]
      refine ev_ifn (by rw [beq_iff_eq]; exact c) ?_
      rw [nx (by omega)]
      have hk := ih (i + 1) hlt (by omega)
      rw [List.take_succ_eq_append_getElem hlt, List.append_assoc] at hk
      exact hk
theorem cmp_f {l : List KV} (hl : l.length ≤ 1000) : Ev (fun n => api_KV_35.f n l ()) (cpt l) := by
  unfold api_KV_35.f
  match l, hl with
  | [], _ => exact ev_if (by decide) (ev_now rfl)
  | [x], _ => exact ev_if (by simp) (ev_now rfl)
  | x :: y :: q, hl =>
    refine ev_ifn (by (try simp only [List.length_cons]); omega) ?_
    exact cmp_l0 hl (y :: q).length 0 (by simp) (by (try simp only [List.length_cons]); omega)
theorem terms_l {s : List KV} (hs : s.length ≤ 1000) (d : Nat) : ∀ (i : Nat) (q : List Int), s.length = i + d → q.length ≤ i → Ev (fun n => elect_Terms.l0 n q s (s.length : Int) (i : Int)) (q ++ (s.drop i).map (·.f2)) := by
  induction d with
  | zero =>
    intro i q hd hq
    refine Ev.step (fun n => by apply elect_Terms.l0.eq_2) ?_
    refine ev_ifn (by omega) (ev_now ?_)
    rw [List.drop_of_length_le (by omega)]
    simp
  | succ d ih =>
    intro i q hd hq
    have hlt : i < s.length := by omega
    refine Ev.step (fun n => by apply elect_Terms.l0.eq_2) ?_
    refine ev_if (by omega) (ev_if (by omega) (ev_if (by omega) (ev_if (by omega) ?_)))
    rw [rd hlt, nx (by omega)]
    have hk := ih (i + 1) (q ++ [s[i].f2]) (by omega) (by rw [List.length_append]; simp only [List.length_singleton]; omega)
    rw [List.append_assoc] at hk
    rw [List.drop_eq_getElem_cons hlt]
    exact hk
theorem terms_f {l : List KV} (hl : l.length ≤ 1000) : Ev (fun n => elect_Terms.f n l) (trm l) := by
  unfold elect_Terms.f
  have := cpt_len l
  refine ev_c (clone_f hl) (ev_b (cmp_f hl) ?_)
  have hk := terms_l (s := cpt l) (by omega) (cpt l).length 0 [] (by omega) (by simp)
  simpa [trm] using hk
theorem trm_len (l : List KV) : (trm l).length ≤ l.length := by
  unfold trm
  rw [List.length_map]
  exact cpt_len l
theorem rdi {l : List Int} {i : Nat} (h : i < l.length) : Go.Proofs.YtaebmmjhokjdbaaW.PrintWords.rd l (i : Int) = l[i] := by simp [Go.Proofs.YtaebmmjhokjdbaaW.PrintWords.rd, List.getElem?_eq_getElem h]
theorem ints_l {l : List Int} (hl : l.length ≤ 1000) (d : Nat) : ∀ i : Nat, l.length = i + d → Ev (fun n => batonref08_Ints.l0 n l l (i : Int)) true := by
  induction d with
  | zero =>
    intro i hd
    exact Ev.step (fun n => by apply batonref08_Ints.l0.eq_2) (ev_ifn (by omega) (ev_now rfl))
  | succ d ih =>
    intro i hd
    refine Ev.step (fun n => by apply batonref08_Ints.l0.eq_2) ?_
    refine ev_if (by omega) (ev_if (by omega) (ev_if (by omega) (ev_if rfl ?_)))
    rw [nx (by omega)]
    exact ih (i + 1) (by omega)
theorem ints_f {l : List Int} (hl : l.length ≤ 1000) : Ev (fun n => batonref08_Ints.f n l l) true := by
  unfold batonref08_Ints.f
  exact ev_if rfl (ints_l hl l.length 0 (by omega))
theorem live : Ev (fun k => batonlaw17_live.f k) true := Ev.of batonlaw17_live.mono (k := 40) (by decide +kernel)
end ElectF
end Go.Proofs.Ytaebmmjhokjdbaa.PM
