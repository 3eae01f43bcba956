/- BagCounts: the pure statement, out of the plain laws of bags. -/
import Derived.Test.YtfdfilgohcbgfaaSaidBagCounts
import Derived.Test.YtfdfilgohcbgfaaBag
namespace Go.Proofs.Ytfdfilgohcbgfaa.PM.GBagCounts
open Go.RowKit Go.Proofs.YtfdfilgohcbgfaaW.PrintWords Go.Proofs.YtfdfilgohcbgfaaW.PrintLast Go.Proofs.YtfdfilgohcbgfaaW.PrintMore Go.Proofs.Ytfdfilgohcbgfaa.PM Go.Proofs.Ytfdfilgohcbgfaa.My
set_option linter.unusedVariables false
/-- How many messages go from a to b. -/
def cnt (a b : Int) : List S31 → Nat
  | [] => 0
  | x :: l => (if x.f0 = a ∧ x.f1 = b then 1 else 0) + cnt a b l
theorem cnt_app (a b : Int) (l m : List S31) : cnt a b (l ++ m) = cnt a b l + cnt a b m := by
  induction l with
  | nil => simp [cnt]
  | cons x l ih => simp only [List.cons_append, cnt, ih]; omega
theorem btw_len (a b : Int) : ∀ (l : List S31) (i : Nat), (Bag.btw a b l i).length = cnt a b l
  | [], _ => rfl
  | x :: l, i => by
    unfold Bag.btw cnt
    split
    · simp [btw_len a b l (i + 1)]; omega
    · simp [btw_len a b l (i + 1)]
theorem cnt_le (a b : Int) (l : List S31) : cnt a b l ≤ l.length := by
  induction l with
  | nil => exact Nat.le_refl _
  | cons x l ih => simp only [cnt, List.length_cons]; split <;> omega
/-- Each place is one of the list, where such a message lies. -/
theorem btw_in (a b : Int) : ∀ (l : List S31) (i : Nat), ∀ x ∈ Bag.btw a b l i, ∃ n : Nat, ∃ h : n < l.length, x = ((i + n : Nat) : Int) ∧ l[n].f0 = a ∧ l[n].f1 = b
  | [], _ => by intro x hx; simp [Bag.btw] at hx
  | y :: l, i => by
    intro x hx
    unfold Bag.btw at hx
    have far : x ∈ Bag.btw a b l (i + 1) → ∃ n : Nat, ∃ h : n < (y :: l).length, x = ((i + n : Nat) : Int) ∧ (y :: l)[n].f0 = a ∧ (y :: l)[n].f1 = b := by
      intro hx
      obtain ⟨n, h, e, h0, h1⟩ := btw_in a b l (i + 1) x hx
      exact ⟨n + 1, by simp; omega, by rw [e]; congr 1; omega, by simpa using h0, by simpa using h1⟩
    split at hx
    · rename_i c
      rcases List.mem_cons.1 hx with hx | hx
      · exact ⟨0, by simp, by rw [hx]; rfl, c.1, c.2⟩
      · exact far hx
    · exact far hx
theorem btw_up (a b : Int) : ∀ (l : List S31) (i : Nat), List.Pairwise (fun x y => x < y) (Bag.btw a b l i)
  | [], _ => List.Pairwise.nil
  | y :: l, i => by
    unfold Bag.btw
    split
    · refine List.Pairwise.cons (fun x hx => ?_) (btw_up a b l (i + 1))
      obtain ⟨n, _, e, _⟩ := btw_in a b l (i + 1) x hx
      omega
    · exact btw_up a b l (i + 1)
/-- The last loop: the rest of the bag against the bag without its place n. -/
theorem rest (l q : List S31) (a : Int) (c : Int) (hl : l.length ≤ 40) (n : Nat) (hn : c = 0 ∧ a = (n : Int) ∧ n < l.length ∧ q = l.take n ++ l.drop (n + 1) ∨ c ≠ 0 ∧ n = l.length ∧ q = l) (d : Nat) :
    ∀ i : Nat, l.length = i + d → Ev (fun k => batonlaw12_BagCounts.l1 k l a q c ((if i ≤ n then i else i - 1 : Nat) : Int) (i : Int)) true := by
  have hq : q.length = (if l.length ≤ n then l.length else l.length - 1 : Nat) := by
    rcases hn with ⟨_, _, h1, h2⟩ | ⟨_, h1, h2⟩
    · rw [h2, if_neg (by omega)]; simp; omega
    · rw [h2, if_pos (by omega)]
  induction d with
  | zero =>
    intro i hd
    refine Ev.step (fun k => by apply batonlaw12_BagCounts.l1.eq_2) ?_
    refine ev_ifn (by omega) (ev_if ?_ (ev_b Bag.live (Ev.now _)))
    rw [hq, hd, Nat.add_zero]
  | succ d ih =>
    intro i hd
    have hlt : i < l.length := by omega
    have hi1 : wrap64 ((i : Int) + 1) = ((i + 1 : Nat) : Int) := by rw [w64 (by omega) (by omega)]; omega
    have ih' := ih (i + 1) (by omega)
    refine Ev.step (fun k => by apply batonlaw12_BagCounts.l1.eq_2) ?_
    refine ev_if (by omega) ?_
    have hskip : c = 0 → (i : Int) = a → Ev (fun k => batonlaw12_BagCounts.j4 k l a q c ((if i ≤ n then i else i - 1 : Nat) : Int) (i : Int) true) true := by
      intro hc ha
      have hin : i = n := by omega
      refine Ev.step (fun k => by apply batonlaw12_BagCounts.j4.eq_2) ?_
      refine ev_if rfl ?_
      rw [hi1]
      rw [if_neg (by omega)] at ih'
      rw [if_pos (by omega)]
      exact ih'
    have hgo : ¬ (c = 0 ∧ (i : Int) = a) → Ev (fun k => batonlaw12_BagCounts.j4 k l a q c ((if i ≤ n then i else i - 1 : Nat) : Int) (i : Int) false) true := by
      intro hne
      have hin : i ≠ n := by omega
      have e1 : rd_T31 l (i : Int) = l[i] := by simp [rd_T31, List.getElem?_eq_getElem hlt]
      have e2 : rd_T31 q ((if i ≤ n then i else i - 1 : Nat) : Int) = l[i] := by
        have hx : q[(if i ≤ n then i else i - 1 : Nat)]? = some l[i] := by
          rcases hn with ⟨_, _, h1, h2⟩ | ⟨_, h1, h2⟩
          · rw [h2]
            split
            · rw [List.getElem?_append_left (by simp; omega), List.getElem?_take_of_lt (by omega), List.getElem?_eq_getElem hlt]
            · rw [List.getElem?_append_right (by simp; omega), List.getElem?_drop, List.length_take, Nat.min_eq_left (by omega), show n + 1 + (i - 1 - n) = i by omega, List.getElem?_eq_getElem hlt]
          · rw [h2, if_pos (by omega), List.getElem?_eq_getElem hlt]
        simp [rd_T31, hx]
      have hj : ((if i ≤ n then i else i - 1 : Nat)) < q.length := by
        rw [hq]; split <;> split <;> omega
      have hb : (if i ≤ n then i else i - 1 : Nat) ≤ 40 := by split <;> omega
      have hj1 : wrap64 (((if i ≤ n then i else i - 1 : Nat) : Int) + 1) = ((if i + 1 ≤ n then i + 1 else i + 1 - 1 : Nat) : Int) := by
        rw [w64 (by omega) (by omega)]
        split <;> split <;> omega
      refine Ev.step (fun k => by apply batonlaw12_BagCounts.j4.eq_2) ?_
      refine ev_ifn (by decide) (ev_ifn (by omega) (ev_if (by omega) (ev_if (by omega) (ev_if (by omega) (ev_if (by omega) (ev_ifn ?_ ?_))))))
      · rw [e1, e2]; simp
      · rw [hi1, hj1]; exact ih'
    by_cases hc : c = 0
    · refine ev_if hc ?_
      by_cases ha : (i : Int) = a
      · rw [show ((i : Int) == a) = true by simpa using ha]
        exact hskip hc ha
      · rw [show ((i : Int) == a) = false by simpa using ha]
        exact hgo (fun h => ha h.2)
    · exact ev_ifn hc (hgo (fun h => hc h.1))
/-- The first loop: each place that was told. -/
theorem places (l q : List S31) (a : Int) (c : Int) (hl : l.length ≤ 40) (x y : Int) (now : List Int) (b0 b1 : Int) (b2 : ByteArray) (r : Bool)
    (hend : Ev (fun k => if c = 0 then (if b0 = x then batonlaw12_BagCounts.j1 k l a q c (Bag.btw x y l 0) now 0 (b1 == y) else batonlaw12_BagCounts.j1 k l a q c (Bag.btw x y l 0) now 0 false) else batonlaw12_BagCounts.j1 k l a q c (Bag.btw x y l 0) now 0 false) r) (d : Nat) :
    ∀ i : Nat, (Bag.btw x y l 0).length = i + d → Ev (fun k => batonlaw12_BagCounts.l0 k l a q c (Bag.btw x y l 0) now (i : Int) x y b0 b1 b2) r := by
  have hlen : (Bag.btw x y l 0).length ≤ 40 := by rw [btw_len]; have := cnt_le x y l; omega
  induction d with
  | zero =>
    intro i hd
    refine Ev.step (fun k => by apply batonlaw12_BagCounts.l0.eq_2) ?_
    exact ev_ifn (by omega) hend
  | succ d ih =>
    intro i hd
    have ih' := ih (i + 1) (by omega)
    have hlt : i < (Bag.btw x y l 0).length := by omega
    have hi1 : wrap64 ((i : Int) + 1) = ((i + 1 : Nat) : Int) := by rw [w64 (by omega) (by omega)]; omega
    obtain ⟨n, hn, e, e0, e1⟩ := btw_in x y l 0 _ (List.getElem_mem hlt)
    have er : rd (Bag.btw x y l 0) (i : Int) = (n : Int) := by
      simp only [rd, Int.toNat_natCast, List.getD_eq_getElem?_getD, List.getElem?_eq_getElem hlt, Option.getD_some]
      rw [e]; congr 1; omega
    have ex : rd_T31 l (n : Int) = l[n] := by simp [rd_T31, List.getElem?_eq_getElem hn]
    refine Ev.step (fun k => by apply batonlaw12_BagCounts.l0.eq_2) ?_
    refine ev_if (by omega) (ev_if (by omega) ?_)
    rw [er, ex, hi1]
    refine ev_ifn (by omega) (ev_ifn (by omega) (ev_if (by omega) (ev_if (by omega) (ev_if e0 (ev_if e1 ?_)))))
    by_cases c0 : (i : Int) > 0
    · have hj : wrap64 ((i : Int) - 1) = ((i - 1 : Nat) : Int) := by rw [w64 (by omega) (by omega)]; omega
      have hlt' : i - 1 < (Bag.btw x y l 0).length := by omega
      have er' : rd (Bag.btw x y l 0) ((i - 1 : Nat) : Int) = (Bag.btw x y l 0)[i - 1] := by
        simp only [rd, Int.toNat_natCast, List.getD_eq_getElem?_getD, List.getElem?_eq_getElem hlt', Option.getD_some]
      have hup := List.pairwise_iff_getElem.1 (btw_up x y l 0) (i - 1) i hlt' hlt (by omega)
      rw [hj]
      refine ev_if c0 (ev_if (by omega) (ev_if (by omega) (ev_ifn ?_ ih')))
      rw [er']
      omega
    · exact ev_ifn c0 ih'
theorem pure_holds : Pure := by
  intro l a e hl _ _
  refine Ev.rounds (g := fun k => batonlaw12_BagCounts.f k l a e.f0 e.f1) ?_
  unfold batonlaw12_BagCounts.f
  refine ev_c (Bag.few_f l []) ?_
  by_cases h : l.length ≤ 40
  · refine ev_if (by simp; omega) (ev_c (Bag.take_f (by omega) _) ?_)
    by_cases c : 0 ≤ a ∧ a < (l.length : Int)
    · obtain ⟨n, hn, rfl⟩ : ∃ n : Nat, n < l.length ∧ a = (n : Int) := ⟨a.toNat, by omega, by omega⟩
      rw [Bag.take_in hn]
      refine ev_b (Bag.btw_f _ _ (by omega)) (ev_b (Bag.btw_f _ _ (by simp; omega)) ?_)
      have hcnt : cnt e.f0 e.f1 l = (if l[n].f0 = e.f0 ∧ l[n].f1 = e.f1 then 1 else 0) + cnt e.f0 e.f1 (l.take n ++ l.drop (n + 1)) := by
        conv => lhs; rw [← List.take_append_drop n l, List.drop_eq_getElem_cons hn]
        rw [cnt_app, cnt_app, cnt]; omega
      have h40 := cnt_le e.f0 e.f1 l
      have hrest := rest l (l.take n ++ l.drop (n + 1)) (n : Int) 0 h n (.inl ⟨rfl, rfl, hn, rfl⟩) l.length 0 (by omega)
      rw [if_pos (by omega)] at hrest
      have hj2 : ∀ z : Int, ((Bag.btw e.f0 e.f1 (l.take n ++ l.drop (n + 1)) 0).length : Int) = ((Bag.btw e.f0 e.f1 l 0).length : Int) - z → 0 ≤ z → z ≤ 1 → Ev (fun k => batonlaw12_BagCounts.j2 k l (n : Int) (l.take n ++ l.drop (n + 1)) 0 (Bag.btw e.f0 e.f1 l 0) (Bag.btw e.f0 e.f1 (l.take n ++ l.drop (n + 1)) 0) z) true := by
        intro z hz z0 z1
        refine Ev.step (fun k => by apply batonlaw12_BagCounts.j2.eq_2) ?_
        refine ev_if ?_ hrest
        rw [btw_len] at hz ⊢
        rw [btw_len] at hz ⊢
        rw [w64 (by omega) (by omega)]; exact hz
      refine places l _ (n : Int) 0 h e.f0 e.f1 _ _ _ _ true ?_ _ 0 (Nat.zero_add _).symm
      refine ev_if rfl ?_
      have hno : ¬ (l[n].f0 = e.f0 ∧ l[n].f1 = e.f1) → Ev (fun k => batonlaw12_BagCounts.j1 k l (n : Int) (l.take n ++ l.drop (n + 1)) 0 (Bag.btw e.f0 e.f1 l 0) (Bag.btw e.f0 e.f1 (l.take n ++ l.drop (n + 1)) 0) 0 false) true := by
        intro hne
        refine Ev.step (fun k => by apply batonlaw12_BagCounts.j1.eq_2) ?_
        refine ev_ifn (by decide) (hj2 0 ?_ (by omega) (by omega))
        rw [if_neg hne] at hcnt
        rw [btw_len, btw_len]; omega
      by_cases d0 : l[n].f0 = e.f0
      · refine ev_if d0 ?_
        by_cases d1 : l[n].f1 = e.f1
        · rw [show (l[n].f1 == e.f1) = true by simpa using d1]
          refine Ev.step (fun k => by apply batonlaw12_BagCounts.j1.eq_2) ?_
          refine ev_if rfl (hj2 1 ?_ (by omega) (by omega))
          rw [if_pos ⟨d0, d1⟩] at hcnt
          rw [btw_len, btw_len]; omega
        · rw [show (l[n].f1 == e.f1) = false by simpa using d1]
          exact hno (fun h => d1 h.2)
      · exact ev_ifn d0 (hno (fun h => d0 h.1))
    · rw [Bag.take_no (by omega)]
      refine ev_b (Bag.btw_f _ _ (by omega)) (ev_b (Bag.btw_f _ _ (show l.length ≤ 1000 by omega)) ?_)
      have hrest := rest l l a 5 h l.length (.inr ⟨by decide, rfl, rfl⟩) l.length 0 (by omega)
      rw [if_pos (by omega)] at hrest
      refine places l _ a 5 h e.f0 e.f1 _ _ _ _ true ?_ _ 0 (Nat.zero_add _).symm
      refine ev_ifn (by decide) ?_
      refine Ev.step (fun k => by apply batonlaw12_BagCounts.j1.eq_2) ?_
      refine ev_ifn (by decide) ?_
      refine Ev.step (fun k => by apply batonlaw12_BagCounts.j2.eq_2) ?_
      refine ev_if ?_ hrest
      have h40 := cnt_le e.f0 e.f1 l
      rw [w64 (by rw [btw_len]; omega) (by rw [btw_len]; omega)]; simp
  · exact ev_ifn (by simp; omega) (ev_b Bag.live (Ev.now _))
end Go.Proofs.Ytfdfilgohcbgfaa.PM.GBagCounts
