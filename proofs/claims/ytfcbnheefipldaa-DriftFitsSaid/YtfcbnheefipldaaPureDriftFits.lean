/- DriftFits: the pure statement, out of the plain laws of clocks. -/
import Derived.Test.YtfcbnheefipldaaSaidDriftFits
import Derived.Test.YtfcbnheefipldaaDrift
namespace Go.Proofs.Ytfcbnheefipldaa.PM.GDriftFits
open Go.RowKit Go.Proofs.YtfcbnheefipldaaW.PrintWords Go.Proofs.YtfcbnheefipldaaW.PrintLast Go.Proofs.YtfcbnheefipldaaW.PrintMore Go.Proofs.Ytfcbnheefipldaa.PM Go.Proofs.Ytfcbnheefipldaa.My
set_option linter.unusedVariables false
theorem rn_lo : ∀ (l : List Int) (a : Int), 0 ≤ a → a ≤ 1099511627775 → l.length ≤ 200 → Drift.run true l a ≤ 1099511627775 ∧ (a + 15 * (l.length : Int) ≤ Drift.run true l a ∨ Drift.run true l a = 1099511627775) ∧ Drift.run true l a ≤ a + 17 * (l.length : Int)
  | [], a, h0, h1, _ => ⟨h1, .inl (by simp [Drift.run]), by simp [Drift.run]⟩
  | b :: l, a, h0, h1, h2 => by
    have hr := Drift.rt_bd true b
    have hn := Drift.nx_bd (st := true) (b := b) h0 h1
    simp only [List.length_cons] at h2 ⊢
    have ih := rn_lo l (Drift.nx true a b) (by omega) hn.2 (by omega)
    have hc : Drift.run true (b :: l) a = Drift.run true l (Drift.nx true a b) := rfl
    rw [hc]
    have hx : Drift.nx true a b = 1099511627775 ∨ Drift.nx true a b = a + Drift.rt true b := by
      unfold Drift.nx; split
      · exact .inl rfl
      · exact .inr rfl
    have hx2 : Drift.nx true a b ≤ a + Drift.rt true b := by unfold Drift.nx; split <;> omega
    have hb := Drift.run_bd (st := true) (l := l) (a := Drift.nx true a b) (by omega) hn.2
    simp only [Drift.lo, Drift.hi, if_true] at hr
    generalize Drift.nx true a b = x at *
    generalize Drift.run true l x = y at *
    generalize Drift.rt true b = z at *
    refine ⟨ih.1, ?_, ?_⟩
    · rcases hx with hx | hx
      · right; omega
      · rcases ih.2.1 with h | h
        · left; push_cast; omega
        · right; exact h
    · have := ih.2.2; push_cast; omega
theorem cf_true (ttl : Int) (h2 : 2 ≤ ttl) (h3 : ttl ≤ 1000) : ∀ (l m : List Int) (x y : Int) (n : Nat), l.length = m.length → n + l.length ≤ 200 → 15 * (n : Int) ≤ x → x ≤ 1099511627775 → 0 ≤ y → y ≤ 17 * (n : Int) → Drift.cf ttl (Drift.safe ttl) l m x y = true
  | [], _, _, _, _, _, _, _, _, _, _ => by unfold Drift.cf; rfl
  | _ :: _, [], _, _, _, h, _, _, _, _, _ => by simp at h
  | a :: l, b :: m, x, y, n, hl, hn, hx, hx1, hy0, hy => by
    simp only [List.length_cons] at hl hn
    have ha := Drift.nx_bd (st := true) (b := a) (show 0 ≤ x by omega) hx1
    have hb := Drift.nx_bd (st := true) (b := b) hy0 (by omega)
    have ra := Drift.rt_bd true a
    have rb := Drift.rt_bd true b
    have ax : Drift.nx true x a = 1099511627775 ∨ Drift.nx true x a = x + Drift.rt true a := by
      unfold Drift.nx; split
      · exact .inl rfl
      · exact .inr rfl
    have bx : Drift.nx true y b ≤ y + Drift.rt true b := by unfold Drift.nx; split <;> omega
    have hs : Drift.safe ttl = ttl * 15 / 17 := by unfold Drift.safe; rw [if_neg (by omega), if_neg (by omega)]
    have ih := cf_true ttl h2 h3 l m (Drift.nx true x a) (Drift.nx true y b) (n + 1) (by omega) (by omega)
    unfold Drift.cf
    simp only [Drift.lo, Drift.hi, if_true] at ra rb
    generalize Drift.nx true x a = x1 at *
    generalize Drift.nx true y b = y1 at *
    generalize Drift.rt true a = z at *
    generalize Drift.rt true b = z1 at *
    rw [if_neg (by rw [hs]; intro h; rcases ax with h | h <;> omega)]
    exact ih (by push_cast; rcases ax with h | h <;> omega) ha.2 (by omega) (by push_cast; omega)
theorem pure_holds : Pure := by
  intro t l m ht hl hm
  refine Ev.rounds (g := fun k => batonlaw11_DriftFits.f k t l m) ?_
  unfold batonlaw11_DriftFits.f
  have hlive : Ev (fun k => batonlaw11_DriftFits.j0 k t l m true) true := by
    refine Ev.step (fun k => by apply batonlaw11_DriftFits.j0.eq_2) ?_
    exact ev_if rfl (ev_c Drift.live (Ev.now _))
  by_cases h1 : (l.length : Int) > 200
  · exact ev_if h1 hlive
  refine ev_ifn h1 ?_
  by_cases h2 : (l.length : Int) = (m.length : Int)
  rotate_left
  · exact ev_ifn h2 hlive
  refine ev_if h2 ?_
  by_cases h3 : t < 1
  · exact ev_if h3 hlive
  refine ev_ifn h3 ?_
  by_cases h4 : t > 1000
  · rw [show decide (t > 1000) = true by simpa using h4]
    exact hlive
  rw [show decide (t > 1000) = false by simpa using h4]
  refine Ev.step (fun k => by apply batonlaw11_DriftFits.j0.eq_2) ?_
  refine ev_ifn (by simp) (ev_c (Drift.run_eq _ _ _) (ev_c (Drift.safe_f _) ?_))
  have hs : Drift.safe t = t * 15 / 17 := by unfold Drift.safe; rw [if_neg (by omega), if_neg (by omega)]
  have r1 := rn_lo l 0 (by omega) (by omega) (by omega)
  have r2 := rn_lo m 0 (by omega) (by omega) (by omega)
  have e1 : Drift.runs 0 l true = Drift.run true l 0 := by unfold Drift.runs; rw [if_neg (by omega), if_neg (by omega)]
  have e2 : Drift.runs 0 m true = Drift.run true m 0 := by unfold Drift.runs; rw [if_neg (by omega), if_neg (by omega)]
  have hj1 : Ev (fun k => batonlaw11_DriftFits.j1 k t l m false) true := by
    refine Ev.step (fun k => by apply batonlaw11_DriftFits.j1.eq_2) ?_
    refine ev_ifn (by simp) (ev_c (Drift.fits_eq _ _ _) (ev_if ?_ (ev_c Drift.live (Ev.now _))))
    by_cases h5 : t ≥ 2
    · rw [if_neg (by omega), cf_true t h5 (by omega) l m 0 0 0 (by omega) (by omega) (by omega) (by omega) (by omega) (by omega)]
      simpa using h5
    · rw [if_pos (by omega)]
      simp; omega
  rw [e1]
  by_cases h5 : Drift.run true l 0 < Drift.safe t
  · refine ev_if h5 (ev_c (Drift.run_eq _ _ _) ?_)
    rw [e2, show decide (Drift.run true m 0 ≥ t) = false by
      have q1 := r1.2.1; have q2 := r2.2.2
      generalize Drift.run true l 0 = x at *
      generalize Drift.run true m 0 = y at *
      simp; omega]
    exact hj1
  · exact ev_ifn h5 hj1
end Go.Proofs.Ytfcbnheefipldaa.PM.GDriftFits
