/- DriftSpans: the pure statement, out of the plain laws of clocks. -/
import Derived.Test.YtfcbnheefipldaaSaidDriftSpans
import Derived.Test.YtfcbnheefipldaaDrift
namespace Go.Proofs.Ytfcbnheefipldaa.PM.GDriftSpans
open Go.RowKit Go.Proofs.YtfcbnheefipldaaW.PrintWords Go.Proofs.YtfcbnheefipldaaW.PrintLast Go.Proofs.YtfcbnheefipldaaW.PrintMore Go.Proofs.Ytfcbnheefipldaa.PM Go.Proofs.Ytfcbnheefipldaa.My
set_option linter.unusedVariables false
theorem run_take {st : Bool} {l : List Int} {i : Nat} (h : i < l.length) (a : Int) : Drift.run st (l.take (i + 1)) a = Drift.nx st (Drift.run st (l.take i) a) l[i] := by
  unfold Drift.run
  rw [List.take_succ_eq_append_getElem h, List.foldl_append]
  rfl
/-- The answer from position i on. -/
def V (t s : Int) (l m : List Int) (i : Nat) : Bool := if Drift.run true (l.take i) 0 < s ∧ Drift.run true (m.take i) 0 ≥ t then false else Drift.cf t s (l.drop i) (m.drop i) (Drift.run true (l.take i) 0) (Drift.run true (m.take i) 0)
theorem cf_V {t s : Int} {l m : List Int} {i : Nat} (h1 : i < l.length) (h2 : i < m.length) : Drift.cf t s (l.drop i) (m.drop i) (Drift.run true (l.take i) 0) (Drift.run true (m.take i) 0) = V t s l m (i + 1) := by
  unfold V
  rw [List.drop_eq_getElem_cons h1, List.drop_eq_getElem_cons h2, Drift.cf, run_take h1, run_take h2]
theorem cf_end {t s : Int} {l m : List Int} {x y : Int} (h : l = [] ∨ m = []) : Drift.cf t s l m x y = true := by
  rcases h with h | h
  · subst h; unfold Drift.cf; rfl
  · subst h; cases l <;> (unfold Drift.cf; rfl)
theorem ref (t : Int) (l m : List Int) (hl : l.length ≤ 200) (hm : m.length ≤ 200) (d : Nat) : ∀ i : Nat, min l.length m.length = i + d → Ev (fun k => batonref11_Fits.l0 k t l m (i : Int)) (V t (Drift.safe t) l m i) := by
  induction d with
  | zero =>
    intro i hd
    have i1 : i ≤ l.length := by omega
    have i2 : i ≤ m.length := by omega
    have hend : ∀ j : Nat, min l.length m.length < j → Ev (fun k => batonref11_Fits.l0 k t l m (j : Int)) true := by
      intro j hj
      refine Ev.step (fun k => by apply batonref11_Fits.l0.eq_2) ?_
      by_cases c1 : (j : Int) ≤ (l.length : Int)
      · refine ev_if c1 ?_
        rw [show decide ((j : Int) ≤ (m.length : Int)) = false by simp; omega]
        refine Ev.step (fun k => by apply batonref11_Fits.j1.eq_2) ?_
        exact ev_ifn (by simp) (Ev.now _)
      · refine ev_ifn c1 ?_
        refine Ev.step (fun k => by apply batonref11_Fits.j1.eq_2) ?_
        exact ev_ifn (by simp) (Ev.now _)
    refine Ev.step (fun k => by apply batonref11_Fits.l0.eq_2) ?_
    refine ev_if (by omega) ?_
    rw [show decide ((i : Int) ≤ (m.length : Int)) = true by simp; omega]
    refine Ev.step (fun k => by apply batonref11_Fits.j1.eq_2) ?_
    refine ev_if rfl (ev_if (by omega) (ev_if (by omega) ?_))
    refine ev_b (Drift.run_ref _ _ _ (by simp; omega)) (ev_c ((Drift.safe_eq t).trans (Drift.safe_f t)) ?_)
    have e1 : ∀ q : List Int, Drift.runs 0 q true = Drift.run true q 0 := by intro q; unfold Drift.runs; rw [if_neg (by omega), if_neg (by omega)]
    rw [e1, Int.toNat_natCast]
    have he := hend (i + 1) (by omega)
    have hi1 : wrap64 ((i : Int) + 1) = ((i + 1 : Nat) : Int) := by rw [w64 (by omega) (by omega)]; omega
    have hc : Drift.cf t (Drift.safe t) (l.drop i) (m.drop i) (Drift.run true (l.take i) 0) (Drift.run true (m.take i) 0) = true := cf_end (by
      by_cases c : i = l.length
      · left; rw [List.drop_eq_nil_iff]; omega
      · right; rw [List.drop_eq_nil_iff]; omega)
    unfold V
    rw [hc, hi1]
    by_cases c1 : Drift.run true (l.take i) 0 < Drift.safe t
    · refine ev_if c1 (ev_if (by omega) (ev_b (Drift.run_ref _ _ _ (by simp; omega)) ?_))
      rw [e1]
      by_cases c2 : Drift.run true (m.take i) 0 ≥ t
      · refine ev_if c2 (ev_now ?_)
        rw [if_pos ⟨c1, c2⟩]
      · refine ev_ifn c2 ?_
        rw [if_neg (fun h => c2 h.2)]
        exact he
    · refine ev_ifn c1 ?_
      rw [if_neg (fun h => c1 h.1)]
      exact he
  | succ d ih =>
    intro i hd
    have i1 : i < l.length := by omega
    have i2 : i < m.length := by omega
    refine Ev.step (fun k => by apply batonref11_Fits.l0.eq_2) ?_
    refine ev_if (by omega) ?_
    rw [show decide ((i : Int) ≤ (m.length : Int)) = true by simp; omega]
    refine Ev.step (fun k => by apply batonref11_Fits.j1.eq_2) ?_
    refine ev_if rfl (ev_if (by omega) (ev_if (by omega) ?_))
    refine ev_b (Drift.run_ref _ _ _ (by simp; omega)) (ev_c ((Drift.safe_eq t).trans (Drift.safe_f t)) ?_)
    have e1 : ∀ q : List Int, Drift.runs 0 q true = Drift.run true q 0 := by intro q; unfold Drift.runs; rw [if_neg (by omega), if_neg (by omega)]
    rw [e1, Int.toNat_natCast]
    have he := ih (i + 1) (by omega)
    have hi1 : wrap64 ((i : Int) + 1) = ((i + 1 : Nat) : Int) := by rw [w64 (by omega) (by omega)]; omega
    have hV : V t (Drift.safe t) l m i = if Drift.run true (l.take i) 0 < Drift.safe t ∧ Drift.run true (m.take i) 0 ≥ t then false else V t (Drift.safe t) l m (i + 1) := by
      rw [← cf_V i1 i2]; rfl
    rw [hV, hi1]
    by_cases c1 : Drift.run true (l.take i) 0 < Drift.safe t
    · refine ev_if c1 (ev_if (by omega) (ev_b (Drift.run_ref _ _ _ (by simp; omega)) ?_))
      rw [e1]
      by_cases c2 : Drift.run true (m.take i) 0 ≥ t
      · refine ev_if c2 (ev_now ?_)
        rw [if_pos ⟨c1, c2⟩]
      · refine ev_ifn c2 ?_
        rw [if_neg (fun h => c2 h.2)]
        exact he
    · refine ev_ifn c1 ?_
      rw [if_neg (fun h => c1 h.1)]
      exact he
theorem V0 {t : Int} (h : Drift.safe t ≠ 0) (l m : List Int) : V t (Drift.safe t) l m 0 = Drift.cf t (Drift.safe t) l m 0 0 := by
  have ht : 1 ≤ t := by
    unfold Drift.safe at h
    by_cases c : t < 1
    · rw [if_pos c] at h; exact absurd rfl h
    · omega
  unfold V
  simp only [List.take_zero, List.drop_zero, Drift.run_nil]
  rw [if_neg (by omega)]
theorem pure_holds : Pure := by
  intro x l m hx hl hm
  refine Ev.rounds (g := fun k => batonlaw11_DriftSpans.f k x.f0 x.f1 l m) ?_
  unfold batonlaw11_DriftSpans.f
  have hlive : Ev (fun k => batonlaw11_DriftSpans.j0 k l m true x.f0 x.f1) true := by
    refine Ev.step (fun k => by apply batonlaw11_DriftSpans.j0.eq_2) ?_
    exact ev_if rfl (ev_c Drift.live (Ev.now _))
  by_cases h1 : (l.length : Int) > 200
  · exact ev_if h1 hlive
  refine ev_ifn h1 ?_
  by_cases h2 : (m.length : Int) > 200
  · rw [show decide ((m.length : Int) > 200) = true by simpa using h2]
    exact hlive
  rw [show decide ((m.length : Int) > 200) = false by simpa using h2]
  refine Ev.step (fun k => by apply batonlaw11_DriftSpans.j0.eq_2) ?_
  refine ev_ifn (by simp) ?_
  have hsp : ∃ u, drift_Span.f x.f1 = some u ∧ batonref11_Span.f x.f1 = some u := by
    unfold drift_Span.f batonref11_Span.f
    split
    · exact ⟨_, rfl, rfl⟩
    · split
      · exact ⟨_, rfl, rfl⟩
      · exact ⟨_, rfl, rfl⟩
  obtain ⟨u, hu1, hu2⟩ := hsp
  refine ev_c hu1 (ev_c hu2 (ev_c (Drift.safe_f _) (ev_c ((Drift.safe_eq _).trans (Drift.safe_f _)) (ev_if rfl (ev_if rfl (ev_if rfl (ev_c (Drift.fits_eq _ _ _) ?_)))))))
  have href : Ev (fun k => batonref11_Fits.f k x.f0 l m) (if Drift.safe x.f0 = 0 then false else Drift.cf x.f0 (Drift.safe x.f0) l m 0 0) := by
    unfold batonref11_Fits.f
    refine ev_c ((Drift.safe_eq _).trans (Drift.safe_f _)) ?_
    by_cases c : Drift.safe x.f0 = 0
    · refine ev_if c (ev_now ?_)
      rw [if_pos c]
    · refine ev_ifn c ?_
      rw [if_neg c, ← V0 c]
      exact ref x.f0 l m (by omega) (by omega) (min l.length m.length) 0 (by omega)
  refine ev_b href (ev_if (by simp) (ev_c Drift.live (Ev.now _)))
end Go.Proofs.Ytfcbnheefipldaa.PM.GDriftSpans
