/- BagBack: the pure statement, out of the plain laws of bags. -/
import Derived.Test.YtfdfilgohcbgfaaSaidBagBack
import Derived.Test.YtfdfilgohcbgfaaBag
namespace Go.Proofs.Ytfdfilgohcbgfaa.PM.GBagBack
open Go.RowKit Go.Proofs.YtfdfilgohcbgfaaW.PrintWords Go.Proofs.YtfdfilgohcbgfaaW.PrintLast Go.Proofs.YtfdfilgohcbgfaaW.PrintMore Go.Proofs.Ytfdfilgohcbgfaa.PM Go.Proofs.Ytfdfilgohcbgfaa.My
set_option linter.unusedVariables false
theorem take_last (l : List S31) (x : S31) : Bag.take (l ++ [x]) (l.length : Int) = (x.f0, x.f1, x.f2, l, 0) := by
  have h : l.length < (l ++ [x]).length := by simp
  rw [Bag.take_in h]
  simp
theorem back (l : List S31) (i : Int) (hl : l.length ≤ 40) : Ev (fun k => batonlaw12_BagBack.j1 k l i) true := by
  refine Ev.step (fun k => by apply batonlaw12_BagBack.j1.eq_2) ?_
  refine ev_b (Bag.copy_f (by omega) i) ?_
  by_cases h1 : i < 0 ∨ i ≥ (l.length : Int)
  · have hc : Bag.copy l i = (l, 5) := if_pos h1
    rw [hc]
    exact ev_ifn (by simp) (ev_b (Bag.same_f (show l.length ≤ 2000 by omega)) (ev_if rfl (ev_b Bag.live (Ev.now _))))
  by_cases h2 : (l.length : Int) ≥ 16
  · have hc : Bag.copy l i = (l, 4) := by unfold Bag.copy; rw [if_neg h1, if_pos h2]
    rw [hc]
    exact ev_ifn (by simp) (ev_b (Bag.same_f (show l.length ≤ 2000 by omega)) (ev_if rfl (ev_b Bag.live (Ev.now _))))
  · obtain ⟨n, hn, rfl⟩ : ∃ n : Nat, n < l.length ∧ i = (n : Int) := ⟨i.toNat, by omega, by omega⟩
    have hc : Bag.copy l n = (l ++ [l[n]], 0) := by
      unfold Bag.copy; rw [if_neg h1, if_neg h2, show rd_T31 l (n : Int) = l[n] by simp [rd_T31, List.getElem?_eq_getElem hn]]
    rw [hc]
    refine ev_if rfl (ev_c (Bag.take_f (by simp; omega) _) (ev_c (Bag.take_f (by omega) _) ?_))
    rw [take_last, Bag.take_in hn]
    exact ev_if rfl (ev_if rfl (ev_if (by simp) (ev_b (Bag.same_f (show l.length ≤ 2000 by omega)) (ev_if rfl (ev_b Bag.live (Ev.now _))))))
theorem loop (l m : List S31) (i : Int) (hl : l.length ≤ 40) (hm : m.length ≤ 40) : ∀ j : Nat, j ≤ m.length → Ev (fun k => batonlaw12_BagBack.l0 k l m i (l ++ m.take j) ((j : Int) - 1)) true := by
  intro j
  induction j with
  | zero =>
    intro _
    refine Ev.step (fun k => by apply batonlaw12_BagBack.l0.eq_2) ?_
    refine ev_ifn (by omega) ?_
    rw [List.take_zero, List.append_nil]
    exact ev_b (Bag.same_f (show l.length ≤ 2000 by omega)) (ev_if rfl (back l i hl))
  | succ j ih =>
    intro hj
    have hlt : j < m.length := by omega
    have ih' := ih (by omega)
    refine Ev.step (fun k => by apply batonlaw12_BagBack.l0.eq_2) ?_
    refine ev_if (by omega) (ev_c (Bag.take_f (by simp; omega) _) ?_)
    rw [show ((j + 1 : Nat) : Int) - 1 = (j : Int) by omega, show wrap64 ((l.length : Int) + (j : Int)) = ((l ++ m.take j).length : Int) by rw [w64 (by omega) (by omega)]; simp; omega, show wrap64 ((j : Int) - 1) = (j : Int) - 1 by rw [w64 (by omega) (by omega)], List.take_succ_eq_append_getElem hlt, ← List.append_assoc, take_last]
    have e : rd_T31 m (j : Int) = m[j] := by simp [rd_T31, List.getElem?_eq_getElem hlt]
    rw [e]
    exact ev_if rfl (ev_if (by omega) (ev_if (by omega) (ev_ifn (by simp) ih')))
theorem pure_holds : Pure := by
  intro l m i _ _ _
  refine Ev.rounds (g := fun k => batonlaw12_BagBack.f k l m i) ?_
  unfold batonlaw12_BagBack.f
  refine ev_c (Bag.few_f l m) ?_
  by_cases h : l.length ≤ 40 ∧ m.length ≤ 40
  · refine ev_if (by simp; omega) (ev_c (Bag.put_f (by omega) (by omega)) ?_)
    by_cases c1 : m.any Bag.odd = true
    · have hp : Bag.put l m = (l, 1) := if_pos c1
      rw [hp]
      exact ev_ifn (by simp) (back l i h.1)
    by_cases c2 : (l.length : Int) + (m.length : Int) > 16
    · have hp : Bag.put l m = (l, 4) := by unfold Bag.put; rw [if_neg c1, if_pos c2]
      rw [hp]
      exact ev_ifn (by simp) (back l i h.1)
    · have hp : Bag.put l m = (l ++ m, 0) := by unfold Bag.put; rw [if_neg c1, if_neg c2]
      rw [hp]
      refine ev_if rfl ?_
      have := loop l m i h.1 h.2 m.length (Nat.le_refl _)
      rw [List.take_length] at this
      rw [show wrap64 ((m.length : Int) - 1) = (m.length : Int) - 1 by rw [w64 (by omega) (by omega)]]
      exact this
  · refine ev_ifn (by simp; omega) (ev_b Bag.live (Ev.now _))
end Go.Proofs.Ytfdfilgohcbgfaa.PM.GBagBack
