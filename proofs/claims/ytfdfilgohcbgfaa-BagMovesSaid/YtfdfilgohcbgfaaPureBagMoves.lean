/- BagMoves: the pure statement, out of the plain laws of bags. -/
import Derived.Test.YtfdfilgohcbgfaaSaidBagMoves
import Derived.Test.YtfdfilgohcbgfaaBag
namespace Go.Proofs.Ytfdfilgohcbgfaa.PM.GBagMoves
open Go.RowKit Go.Proofs.YtfdfilgohcbgfaaW.PrintWords Go.Proofs.YtfdfilgohcbgfaaW.PrintLast Go.Proofs.YtfdfilgohcbgfaaW.PrintMore Go.Proofs.Ytfdfilgohcbgfaa.PM Go.Proofs.Ytfdfilgohcbgfaa.My
set_option linter.unusedVariables false
/-- Are two messages the same? -/
def eqb (y x : S31) : Bool := y.f0 == x.f0 && (y.f1 == x.f1 && (y.f2.toList == x.f2.toList))
def num (x : S31) : List S31 → Int
  | [] => 0
  | y :: l => (if eqb y x = true then 1 else 0) + num x l
theorem num_app (x : S31) (l m : List S31) : num x (l ++ m) = num x l + num x m := by
  induction l with
  | nil => simp [num]
  | cons y l ih => simp only [List.cons_append, num, ih]; omega
theorem num_bd (x : S31) (l : List S31) : 0 ≤ num x l ∧ num x l ≤ (l.length : Int) := by
  induction l with
  | nil => exact ⟨Int.le_refl _, Int.le_refl _⟩
  | cons y l ih => simp only [num, List.length_cons]; split <;> omega
theorem num_take (x : S31) {l : List S31} {i : Nat} (h : i < l.length) : num x (l.take (i + 1)) = num x (l.take i) + (if eqb l[i] x = true then 1 else 0) := by
  rw [List.take_succ_eq_append_getElem h, num_app]
  simp [num]
/-- One of l is counted, in l and in what was taken out of it. -/
theorem count (l g : List S31) (hl : l.length ≤ 40) (hg : g.length = l.length) (i : Nat) (hi : i < l.length) (hn : num l[i] l = num l[i] g)
    (hnext : Ev (fun k => batonlaw12_BagMoves.l1 k l g ((i + 1 : Nat) : Int)) true) (d : Nat) :
    ∀ j : Nat, l.length = j + d → Ev (fun k => batonlaw12_BagMoves.l2 k l g (i : Int) (num l[i] (l.take j) - num l[i] (g.take j)) (j : Int)) true := by
  induction d with
  | zero =>
    intro j hd
    refine Ev.step (fun k => by apply batonlaw12_BagMoves.l2.eq_2) ?_
    refine ev_ifn (by omega) ?_
    rw [List.take_of_length_le (by omega), List.take_of_length_le (by omega)]
    refine ev_if (by omega) ?_
    rw [show wrap64 ((i : Int) + 1) = ((i + 1 : Nat) : Int) by rw [w64 (by omega) (by omega)]; omega]
    exact hnext
  | succ d ih =>
    intro j hd
    have ih' := ih (j + 1) (by omega)
    have hl' : j < l.length := by omega
    have hg' : j < g.length := by omega
    have e1 : rd_T31 l (i : Int) = l[i] := by simp [rd_T31, List.getElem?_eq_getElem hi]
    have e2 : rd_T31 l (j : Int) = l[j] := by simp [rd_T31, List.getElem?_eq_getElem hl']
    have e3 : rd_T31 g (j : Int) = g[j] := by simp [rd_T31, List.getElem?_eq_getElem hg']
    have hj1 : wrap64 ((j : Int) + 1) = ((j + 1 : Nat) : Int) := by rw [w64 (by omega) (by omega)]; omega
    have b1 := num_bd l[i] (l.take j)
    have b2 := num_bd l[i] (g.take j)
    have b3 : ((l.take j).length : Int) ≤ 40 := by simp; omega
    have b4 : ((g.take j).length : Int) ≤ 40 := by simp; omega
    rw [num_take _ hl', num_take _ hg'] at ih'
    refine Ev.step (fun k => by apply batonlaw12_BagMoves.l2.eq_2) ?_
    refine ev_if (by omega) (ev_if (by omega) (ev_if (by omega) (ev_if (by omega) ?_)))
    rw [e1, e2, e3, hj1]
    generalize num l[i] (l.take j) = p at *
    generalize num l[i] (g.take j) = q at *
    have hup : ∀ z : Int, -1000 ≤ z → z ≤ 1000 → wrap64 z = z := fun z h0 h1 => w64 (by omega) (by omega)
    by_cases c1 : eqb l[j] l[i] = true
    · refine ev_if c1 (ev_if (by omega) ?_)
      by_cases c2 : eqb g[j] l[i] = true
      · refine ev_if c2 ?_
        rw [if_pos c1, if_pos c2] at ih'
        rw [hup (p - q + 1) (by omega) (by omega), hup (p - q + 1 - 1) (by omega) (by omega), show p - q + 1 - 1 = p + 1 - (q + 1) by omega]
        exact ih'
      · refine ev_ifn c2 ?_
        rw [if_pos c1, if_neg c2] at ih'
        rw [hup (p - q + 1) (by omega) (by omega), show p - q + 1 = p + 1 - (q + 0) by omega]
        exact ih'
    · refine ev_ifn c1 (ev_if (by omega) ?_)
      by_cases c2 : eqb g[j] l[i] = true
      · refine ev_if c2 ?_
        rw [if_neg c1, if_pos c2] at ih'
        rw [hup (p - q - 1) (by omega) (by omega), show p - q - 1 = p + 0 - (q + 1) by omega]
        exact ih'
      · refine ev_ifn c2 ?_
        rw [if_neg c1, if_neg c2] at ih'
        rw [show p - q = p + 0 - (q + 0) by omega]
        exact ih'
theorem counts (l g : List S31) (hl : l.length ≤ 40) (hg : g.length = l.length) (hn : ∀ x, num x l = num x g) (d : Nat) : ∀ i : Nat, l.length = i + d → Ev (fun k => batonlaw12_BagMoves.l1 k l g (i : Int)) true := by
  induction d with
  | zero =>
    intro i hd
    refine Ev.step (fun k => by apply batonlaw12_BagMoves.l1.eq_2) ?_
    exact ev_ifn (by omega) (ev_b Bag.live (Ev.now _))
  | succ d ih =>
    intro i hd
    have hi : i < l.length := by omega
    have hc := count l g hl hg i hi (hn _) (ih (i + 1) (by omega)) l.length 0 (by omega)
    rw [List.take_zero, List.take_zero] at hc
    refine Ev.step (fun k => by apply batonlaw12_BagMoves.l1.eq_2) ?_
    exact ev_if (by omega) hc
/-- What is taken out, and the rest, are the bag. -/
theorem takes (l : List S31) (m : List Int) (hl : l.length ≤ 40) (hm : m.length ≤ 40) (d : Nat) : ∀ (i : Nat) (q g : List S31), q.length = d → g.length = i → q.length + g.length = l.length → (∀ x, num x q + num x g = num x l) → Ev (fun k => batonlaw12_BagMoves.l0 k l m q g (i : Int)) true := by
  induction d with
  | zero =>
    intro i q g hq hi hs hn
    have hq0 : q = [] := List.eq_nil_of_length_eq_zero hq
    subst hq0
    refine Ev.step (fun k => by apply batonlaw12_BagMoves.l0.eq_2) ?_
    refine ev_ifn (by simp) ?_
    refine Ev.step (fun k => by apply batonlaw12_BagMoves.j2.eq_2) ?_
    simp only [List.length_nil, Nat.zero_add] at hs
    refine ev_ifn (by decide) (ev_if (by omega) ?_)
    refine counts l g hl hs (fun x => ?_) l.length 0 (by omega)
    have := hn x
    simp only [num] at this
    omega
  | succ d ih =>
    intro i q g hq hi hs hn
    have hone : ∀ n : Nat, n < q.length → Ev (fun k => batonlaw12_BagMoves.l0 k l m (q.take n ++ q.drop (n + 1)) (g ++ [q[n]!]) ((i + 1 : Nat) : Int)) true := by
      intro n hn'
      refine ih (i + 1) _ _ (by simp; omega) (by simp; omega) (by simp; omega) (fun x => ?_)
      have := hn x
      rw [← List.take_append_drop n q, List.drop_eq_getElem_cons hn', num_app, num] at this
      rw [num_app, num_app, getElem!_pos q n hn']
      simp only [num]
      omega
    have hi1 : wrap64 ((i : Int) + 1) = ((i + 1 : Nat) : Int) := by rw [w64 (by omega) (by omega)]; omega
    have hq1 : wrap64 ((q.length : Int) - 1) = (q.length : Int) - 1 := by rw [w64 (by omega) (by omega)]
    refine Ev.step (fun k => by apply batonlaw12_BagMoves.l0.eq_2) ?_
    refine ev_if (by omega) ?_
    rw [show decide ((i : Int) < 40) = true by simp; omega]
    refine Ev.step (fun k => by apply batonlaw12_BagMoves.j2.eq_2) ?_
    refine ev_if rfl ?_
    have h0 : Ev (fun k => batonlaw12_BagMoves.j3 k l m q g (i : Int) 0 false) true := by
      have hlt : 0 < q.length := by omega
      have h := hone 0 hlt
      rw [getElem!_pos q 0 hlt] at h
      have ht := Bag.take_in hlt
      refine Ev.step (fun k => by apply batonlaw12_BagMoves.j3.eq_2) ?_
      refine ev_ifn (by decide) (ev_c (Bag.take_f (by omega) _) ?_)
      rw [show (0 : Int) = ((0 : Nat) : Int) by rfl, ht, hi1, hq1]
      refine ev_if rfl (ev_if (by simp; omega) (ev_if (by omega) ?_))
      exact h
    by_cases c1 : (i : Int) < (m.length : Int)
    · refine ev_if c1 (ev_if (by omega) ?_)
      by_cases c2 : rd m (i : Int) ≥ 0
      · refine ev_if c2 ?_
        by_cases c3 : rd m (i : Int) < (q.length : Int)
        · rw [show decide (rd m (i : Int) < (q.length : Int)) = true by simpa using c3]
          obtain ⟨n, hn', en⟩ : ∃ n : Nat, n < q.length ∧ rd m (i : Int) = (n : Int) := ⟨(rd m (i : Int)).toNat, by omega, by omega⟩
          have h := hone n hn'
          rw [getElem!_pos q n hn'] at h
          refine Ev.step (fun k => by apply batonlaw12_BagMoves.j3.eq_2) ?_
          refine ev_if rfl (ev_if (by omega) (ev_if c1 (ev_c (Bag.take_f (by omega) _) ?_)))
          rw [en, Bag.take_in hn', hi1, hq1]
          refine ev_if rfl (ev_if (by simp; omega) (ev_if (by omega) ?_))
          exact h
        · rw [show decide (rd m (i : Int) < (q.length : Int)) = false by simpa using c3]
          exact h0
      · exact ev_ifn c2 h0
    · exact ev_ifn c1 h0
theorem pure_holds : Pure := by
  intro l m _ _
  refine Ev.rounds (g := fun k => batonlaw12_BagMoves.f k l m) ?_
  unfold batonlaw12_BagMoves.f
  have hlive : Ev (fun k => batonlaw12_BagMoves.j0 k l m true) true := by
    refine Ev.step (fun k => by apply batonlaw12_BagMoves.j0.eq_2) ?_
    exact ev_if rfl (ev_b Bag.live (Ev.now _))
  refine ev_c (Bag.few_f l []) ?_
  by_cases h : l.length ≤ 40
  · refine ev_if (by simp; omega) ?_
    by_cases c : (m.length : Int) > 40
    · rw [show decide ((m.length : Int) > 40) = true by simpa using c]
      exact hlive
    · rw [show decide ((m.length : Int) > 40) = false by simpa using c]
      refine Ev.step (fun k => by apply batonlaw12_BagMoves.j0.eq_2) ?_
      refine ev_ifn (by decide) ?_
      exact takes l m h (by omega) l.length 0 l [] rfl rfl (by simp) (fun x => by simp [num])
  · exact ev_ifn (by simp; omega) hlive
end Go.Proofs.Ytfdfilgohcbgfaa.PM.GBagMoves
