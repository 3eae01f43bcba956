/- BagMay: the pure statement, out of the plain laws of bags. -/
import Derived.Test.YtfdfilgohcbgfaaSaidBagMay
import Derived.Test.YtfdfilgohcbgfaaBag
namespace Go.Proofs.Ytfdfilgohcbgfaa.PM.GBagMay
open Go.RowKit Go.Proofs.YtfdfilgohcbgfaaW.PrintWords Go.Proofs.YtfdfilgohcbgfaaW.PrintLast Go.Proofs.YtfdfilgohcbgfaaW.PrintMore Go.Proofs.Ytfdfilgohcbgfaa.PM Go.Proofs.Ytfdfilgohcbgfaa.My
set_option linter.unusedVariables false
theorem may_iff (l : List S31) : Bag.may l = true ↔ l.length ≤ 16 ∧ ∀ x ∈ l, Bag.odd x = false := by
  unfold Bag.may
  rw [Bool.and_eq_true, decide_eq_true_eq, Bool.not_eq_true', List.any_eq_false]
  constructor
  · rintro ⟨h1, h2⟩
    exact ⟨by omega, fun x hx => by simpa using h2 x hx⟩
  · rintro ⟨h1, h2⟩
    exact ⟨by omega, fun x hx => by simpa using h2 x hx⟩
theorem may_put {l m : List S31} (h : Bag.may l = true) : Bag.may (Bag.put l m).1 = true := by
  unfold Bag.put
  split
  · exact h
  · rename_i c1
    split
    · exact h
    · rw [may_iff] at h ⊢
      refine ⟨by simp; omega, fun x hx => ?_⟩
      rw [List.mem_append] at hx
      rcases hx with hx | hx
      · exact h.2 x hx
      · rw [Bool.not_eq_true, List.any_eq_false] at c1
        simpa using c1 x hx
theorem may_take {l : List S31} {i : Int} (h : Bag.may l = true) : Bag.may (Bag.take l i).2.2.2.1 = true := by
  unfold Bag.take
  split
  · exact h
  · rw [may_iff] at h ⊢
    refine ⟨by simp; omega, fun x hx => ?_⟩
    rw [List.mem_append] at hx
    rcases hx with hx | hx
    · exact h.2 x (List.mem_of_mem_take hx)
    · exact h.2 x (List.mem_of_mem_drop hx)
theorem may_copy {l : List S31} {i : Int} (h : Bag.may l = true) : Bag.may (Bag.copy l i).1 = true := by
  unfold Bag.copy
  split
  · exact h
  · rename_i c1
    split
    · exact h
    · rename_i c2
      rw [may_iff] at h ⊢
      refine ⟨by simp; omega, fun x hx => ?_⟩
      rw [List.mem_append] at hx
      rcases hx with hx | hx
      · exact h.2 x hx
      · have hlt : i.toNat < l.length := by omega
        rw [show rd_T31 l i = l[i.toNat] by simp [rd_T31, List.getElem?_eq_getElem hlt], List.mem_singleton] at hx
        subst hx
        exact h.2 _ (List.getElem_mem hlt)
theorem pure_holds : Pure := by
  intro l m i _ _ _
  refine Ev.rounds (g := fun k => batonlaw12_BagMay.f k l m i) ?_
  unfold batonlaw12_BagMay.f
  have hlive : Ev (fun k => batonlaw12_BagMay.j0 k l m i true) true := by
    refine Ev.step (fun k => by apply batonlaw12_BagMay.j0.eq_2) ?_
    exact ev_if rfl (ev_b Bag.live (Ev.now _))
  refine ev_c (Bag.few_f l m) ?_
  by_cases h : l.length ≤ 40 ∧ m.length ≤ 40
  · refine ev_if (by simp; omega) (ev_c (Bag.may_f _) ?_)
    by_cases hm : Bag.may l = true
    rotate_left
    · rw [show Bag.may l = false by simpa using hm]
      exact hlive
    have hl16 := ((may_iff l).1 hm).1
    rw [hm]
    refine Ev.step (fun k => by apply batonlaw12_BagMay.j0.eq_2) ?_
    refine ev_ifn (by decide) (ev_c (Bag.put_f (by omega) (by omega)) (ev_c (Bag.take_f (by omega) _) (ev_b (Bag.copy_f (by omega) _) ?_)))
    refine ev_c (Bag.may_f _) (ev_if (may_put hm) (ev_c (Bag.may_f _) (ev_if (may_take hm) (ev_c (Bag.may_f _) ?_))))
    rw [may_copy hm]
    refine Ev.step (fun k => by apply batonlaw12_BagMay.j1.eq_2) ?_
    refine ev_ifn (by decide) ?_
    have hp : (Bag.put l m).2 ≠ 0 ∧ (Bag.put l m).1 = l ∨ (Bag.put l m).2 = 0 ∧ (Bag.put l m).1 = l ++ m := by
      unfold Bag.put
      split
      · exact .inl ⟨by simp, rfl⟩
      · split
        · exact .inl ⟨by simp, rfl⟩
        · exact .inr ⟨rfl, rfl⟩
    have ht : (0 ≤ i ∧ i < (l.length : Int)) ∧ (Bag.take l i).2.2.2.2 = 0 ∧ ((Bag.copy l i).2 = 0 ∨ (Bag.copy l i).2 = 4 ∧ (Bag.copy l i).1 = l) ∨ ¬ (0 ≤ i ∧ i < (l.length : Int)) ∧ (Bag.take l i).2.2.2.2 = 5 ∧ (Bag.take l i).2.2.2.1 = l ∧ (Bag.copy l i).2 = 5 ∧ (Bag.copy l i).1 = l := by
      unfold Bag.take Bag.copy
      by_cases c : i < 0 ∨ i ≥ (l.length : Int)
      · rw [if_pos c, if_pos c]
        exact .inr ⟨by omega, rfl, rfl, rfl, rfl⟩
      · rw [if_neg c, if_neg c]
        refine .inl ⟨by omega, rfl, ?_⟩
        split
        · exact .inr ⟨rfl, rfl⟩
        · exact .inl rfl
    have hpl : (Bag.put l m).2 = 0 → ((Bag.put l m).1.length : Int) = wrap64 ((l.length : Int) + (m.length : Int)) := by
      intro h0
      rcases hp with hp | hp
      · exact absurd h0 hp.1
      · rw [hp.2, w64 (by omega) (by omega)]; simp
    generalize Bag.put l m = P at hp hpl ⊢
    generalize Bag.take l i = T at ht ⊢
    generalize Bag.copy l i = C at ht ⊢
    obtain ⟨p1, p2⟩ := P
    obtain ⟨t1, t2, t3, t4, t5⟩ := T
    obtain ⟨c1, c2⟩ := C
    dsimp only at hp ht hpl ⊢
    have hS : Ev (fun k => batonref12_Same.f k l l) true := Bag.same_f (by omega)
    have hL := Bag.live
    rcases hp with ⟨hp1, rfl⟩ | ⟨rfl, hp2⟩
    · refine ev_ifn hp1 (ev_b hS (ev_if rfl ?_))
      rcases ht with ⟨h0, rfl, rfl | ⟨rfl, rfl⟩⟩ | ⟨h0, rfl, rfl, rfl, rfl⟩
      · exact ev_if rfl (ev_if rfl (ev_if (by omega) (ev_if (by simp; omega) (ev_if (by simp; omega) (ev_b hL (Ev.now _))))))
      · exact ev_if rfl (ev_ifn (by decide) (ev_b hS (ev_if rfl (ev_if (by omega) (ev_if (by simp; omega) (ev_if (by simp; omega) (ev_b hL (Ev.now _))))))))
      · refine ev_ifn (by decide) (ev_b hS (ev_if rfl (ev_ifn (by decide) (ev_b hS (ev_if rfl ?_)))))
        by_cases c : i ≥ 0
        · exact ev_if c (ev_if (by simp; omega) (ev_if (by simp; omega) (ev_b hL (Ev.now _))))
        · exact ev_ifn c (ev_if (by decide) (ev_if (by decide) (ev_b hL (Ev.now _))))
    · refine ev_if rfl ?_
      have hq := hpl rfl
      rcases ht with ⟨h0, rfl, rfl | ⟨rfl, rfl⟩⟩ | ⟨h0, rfl, rfl, rfl, rfl⟩
      · exact ev_if rfl (ev_if rfl (ev_if (by omega) (ev_if (by simp; omega) (ev_if (by simp; omega) (ev_if hq (ev_b hL (Ev.now _)))))))
      · exact ev_if rfl (ev_ifn (by decide) (ev_b hS (ev_if rfl (ev_if (by omega) (ev_if (by simp; omega) (ev_if (by simp; omega) (ev_if hq (ev_b hL (Ev.now _)))))))))
      · refine ev_ifn (by decide) (ev_b hS (ev_if rfl (ev_ifn (by decide) (ev_b hS (ev_if rfl ?_)))))
        by_cases c : i ≥ 0
        · exact ev_if c (ev_if (by simp; omega) (ev_if (by simp; omega) (ev_if hq (ev_b hL (Ev.now _)))))
        · exact ev_ifn c (ev_if (by decide) (ev_if (by decide) (ev_if hq (ev_b hL (Ev.now _)))))
  · exact ev_ifn (by simp; omega) hlive
end Go.Proofs.Ytfdfilgohcbgfaa.PM.GBagMay
