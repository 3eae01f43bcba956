/- BagTakes: the pure statement, out of the plain laws of bags. -/
import Derived.Test.YtfdfilgohcbgfaaSaidBagTakes
import Derived.Test.YtfdfilgohcbgfaaBag
namespace Go.Proofs.Ytfdfilgohcbgfaa.PM.GBagTakes
open Go.RowKit Go.Proofs.YtfdfilgohcbgfaaW.PrintWords Go.Proofs.YtfdfilgohcbgfaaW.PrintLast Go.Proofs.YtfdfilgohcbgfaaW.PrintMore Go.Proofs.Ytfdfilgohcbgfaa.PM Go.Proofs.Ytfdfilgohcbgfaa.My
set_option linter.unusedVariables false
theorem take_ref {l : List S31} (hl : l.length ≤ 1000) (i : Int) : batonref12_Take.f l i = some (Bag.take l i) := by
  unfold batonref12_Take.f Bag.take
  by_cases h1 : i < 0
  · rw [if_pos h1, if_pos (.inl h1)]
  rw [if_neg h1]
  by_cases h2 : (l.length : Int) ≤ i
  · rw [if_pos h2, if_pos (.inr h2)]
  rw [if_neg h2, if_pos (by omega), if_neg (by omega)]
theorem copy_ref {l : List S31} (hl : l.length ≤ 1000) (i : Int) : Ev (fun k => batonref12_Copy.f k l i) (Bag.copy l i) := by
  unfold batonref12_Copy.f
  by_cases h1 : i < 0
  · refine ev_if h1 (Ev.step (fun k => by apply batonref12_Copy.j0.eq_2) (ev_if rfl (ev_now ?_)))
    unfold Bag.copy
    rw [if_pos (.inl h1)]
  · refine ev_ifn h1 (Ev.step (fun k => by apply batonref12_Copy.j0.eq_2) ?_)
    by_cases h2 : i ≥ (l.length : Int)
    · refine ev_if (by simpa using h2) (ev_now ?_)
      unfold Bag.copy
      rw [if_pos (.inr h2)]
    · refine ev_ifn (by simpa using h2) ?_
      by_cases h3 : (l.length : Int) ≥ 16
      · refine ev_if h3 (ev_now ?_)
        unfold Bag.copy
        rw [if_neg (by omega), if_pos h3]
      · refine ev_ifn h3 (ev_c rfl (ev_if (by simp; omega) (ev_c rfl (ev_if (by omega) (ev_if (by omega) (ev_if (by simp; omega) (ev_now ?_)))))))
        unfold Bag.copy
        rw [if_neg (by omega), if_neg h3]
        rfl
theorem btw_r (a b : Int) (l : List S31) (hl : l.length ≤ 1000) (d : Nat) : ∀ (i : Nat) (q : List Int), l.length = i + d → q.length ≤ i → Ev (fun k => batonref12_Between.l0 k l a b q (i : Int)) (q ++ Bag.btw a b (l.drop i) i) := by
  induction d with
  | zero =>
    intro i q hd hq
    refine Ev.step (fun k => by apply batonref12_Between.l0.eq_2) ?_
    refine ev_ifn (by omega) (ev_now ?_)
    rw [List.drop_of_length_le (by omega)]
    simp [Bag.btw]
  | succ d ih =>
    intro i q hd hq
    have hlt : i < l.length := by omega
    have e : rd_T31 l (i : Int) = l[i] := by simp [rd_T31, List.getElem?_eq_getElem hlt]
    have hi1 : wrap64 ((i : Int) + 1) = ((i + 1 : Nat) : Int) := by rw [w64 (by omega) (by omega)]; omega
    rw [List.drop_eq_getElem_cons hlt]
    refine Ev.step (fun k => by apply batonref12_Between.l0.eq_2) ?_
    refine ev_if (by omega) (ev_if (by omega) ?_)
    rw [e, hi1]
    unfold Bag.btw
    by_cases c : l[i].f0 = a
    · refine ev_if c ?_
      by_cases c2 : l[i].f1 = b
      · refine ev_if c2 (ev_if (by omega) ?_)
        rw [if_pos ⟨c, c2⟩]
        have := ih (i + 1) (q ++ [(i : Int)]) (by omega) (by simp; omega)
        rw [List.append_assoc] at this
        exact this
      · refine ev_ifn c2 ?_
        rw [if_neg (fun x => c2 x.2)]
        exact ih (i + 1) q (by omega) (by omega)
    · refine ev_ifn c ?_
      rw [if_neg (fun x => c x.1)]
      exact ih (i + 1) q (by omega) (by omega)
theorem btw_ref (a b : Int) {l : List S31} (hl : l.length ≤ 1000) : Ev (fun k => batonref12_Between.f k l a b) (Bag.btw a b l 0) := by
  have := btw_r a b l hl l.length 0 [] (by omega) (by simp)
  rw [List.nil_append, List.drop_zero] at this
  exact this
theorem btw_len (a b : Int) : ∀ (l : List S31) (i : Nat), (Bag.btw a b l i).length ≤ l.length
  | [], _ => Nat.le_refl _
  | x :: l, i => by
    have := btw_len a b l (i + 1)
    unfold Bag.btw
    split <;> simp <;> omega
theorem ints_l (l : List Int) (hl : l.length ≤ 1000) (d : Nat) : ∀ i : Nat, l.length = i + d → Ev (fun k => batonref08_Ints.l0 k l l (i : Int)) true := by
  induction d with
  | zero =>
    intro i hd
    exact Ev.step (fun k => by apply batonref08_Ints.l0.eq_2) (ev_ifn (by omega) (Ev.now _))
  | succ d ih =>
    intro i hd
    have hi1 : wrap64 ((i : Int) + 1) = ((i + 1 : Nat) : Int) := by rw [w64 (by omega) (by omega)]; omega
    refine Ev.step (fun k => by apply batonref08_Ints.l0.eq_2) ?_
    refine ev_if (by omega) (ev_if (by omega) (ev_if (by omega) ?_))
    rw [hi1]
    first
      | exact ev_if rfl (ih (i + 1) (by omega))
      | exact ev_ifn (by simp) (ih (i + 1) (by omega))
theorem ints_f {l : List Int} (hl : l.length ≤ 1000) : Ev (fun k => batonref08_Ints.f k l l) true := by
  unfold batonref08_Ints.f
  refine ev_if rfl ?_
  exact ints_l l hl l.length 0 (by omega)
theorem pure_holds : Pure := by
  intro l i x _ _ _
  generalize x.f0 = a
  generalize x.f1 = b
  refine Ev.rounds (g := fun k => batonlaw12_BagTakes.f k l i a b) ?_
  unfold batonlaw12_BagTakes.f
  refine ev_c (Bag.few_f l []) ?_
  by_cases h : l.length ≤ 40
  · refine ev_if (by simp; omega) ?_
    refine ev_c (Bag.take_f (by omega) i) (ev_c (take_ref (by omega) i) (ev_b (Bag.copy_f (by omega) i) (ev_b (copy_ref (by omega) i) ?_)))
    have e1 : (Bag.take l i).2.2.2.1.length ≤ 100 := by
      unfold Bag.take
      split
      · exact Nat.le_trans h (by omega)
      · simp; omega
    have e2 : (Bag.copy l i).1.length ≤ 100 := by
      unfold Bag.copy
      split
      · exact Nat.le_trans h (by omega)
      · split
        · exact Nat.le_trans h (by omega)
        · simp; omega
    have e3 := btw_len a b l 0
    refine ev_if (by simp) (ev_b (Bag.same_f (by omega)) (ev_if rfl (ev_if rfl (ev_b (Bag.same_f (by omega)) (ev_if rfl (ev_if rfl ?_))))))
    exact ev_b (Bag.btw_f a b (by omega)) (ev_b (btw_ref a b (by omega)) (ev_b (ints_f (by omega)) (ev_if rfl (ev_b Bag.live (Ev.now _)))))
  · exact ev_ifn (by simp; omega) (ev_b Bag.live (Ev.now _))
end Go.Proofs.Ytfdfilgohcbgfaa.PM.GBagTakes
