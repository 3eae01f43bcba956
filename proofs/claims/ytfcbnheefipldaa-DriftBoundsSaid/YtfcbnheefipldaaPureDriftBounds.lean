/- DriftBounds: the pure statement, out of the plain laws of clocks. -/
import Derived.Test.YtfcbnheefipldaaSaidDriftBounds
import Derived.Test.YtfcbnheefipldaaDrift
namespace Go.Proofs.Ytfcbnheefipldaa.PM.GDriftBounds
open Go.RowKit Go.Proofs.YtfcbnheefipldaaW.PrintWords Go.Proofs.YtfcbnheefipldaaW.PrintLast Go.Proofs.YtfcbnheefipldaaW.PrintMore Go.Proofs.Ytfcbnheefipldaa.PM Go.Proofs.Ytfcbnheefipldaa.My
set_option linter.unusedVariables false
/-- What the ticks of a strict clock come to. -/
def sm : List Int → Int
  | [] => 0
  | b :: l => Drift.rt true b + sm l
theorem sm_bd : ∀ l : List Int, 15 * (l.length : Int) ≤ sm l ∧ sm l ≤ 17 * (l.length : Int)
  | [] => ⟨Int.le_refl _, Int.le_refl _⟩
  | b :: l => by
    have hr := Drift.rt_bd true b
    simp only [Drift.lo, Drift.hi, if_true] at hr
    have ih := sm_bd l
    simp only [sm, List.length_cons]
    omega
theorem sm_app (p q : List Int) : sm (p ++ q) = sm p + sm q := by
  induction p with
  | nil => simp [sm]
  | cons b p ih => simp only [List.cons_append, sm, ih]; omega
theorem sm_rev (l : List Int) : sm l.reverse = sm l := by
  induction l with
  | nil => rfl
  | cons b l ih => rw [List.reverse_cons, sm_app, ih]; simp only [sm]; omega
theorem run_sm : ∀ (l : List Int) (a : Int), 0 ≤ a → a + 17 * (l.length : Int) ≤ 1099511627775 → Drift.run true l a = a + sm l
  | [], a, _, _ => by simp [Drift.run, sm]
  | b :: l, a, h0, h1 => by
    have hr := Drift.rt_bd true b
    simp only [Drift.lo, Drift.hi, if_true] at hr
    simp only [List.length_cons] at h1
    have hn : Drift.nx true a b = a + Drift.rt true b := Drift.nx_lo (by omega)
    rw [Drift.run_cons, hn, run_sm l _ (by omega) (by omega)]
    simp only [sm]; omega
theorem runs_sm {a : Int} {l : List Int} (h0 : 0 ≤ a) (h1 : a + 17 * (l.length : Int) ≤ 1099511627775) : drift_Run.f a l true = some (a + sm l) := by
  rw [Drift.run_eq]
  unfold Drift.runs
  rw [if_neg (by omega), if_neg (by omega), run_sm l a h0 h1]
theorem loop (a : Int) (l : List Int) (c : Int) (h0 : 0 ≤ a) (h1 : a ≤ 549755813888) (hl : l.length ≤ 200) (hc0 : 0 ≤ c) (hc1 : c ≤ (l.length : Int)) : ∀ i : Nat, i ≤ l.length → Ev (fun k => batonlaw11_DriftBounds.l0 k a l c (15 * (l.length : Int)) (17 * (l.length : Int)) (a + sm l) (l.drop i).reverse ((i : Int) - 1)) true := by
  have hb := sm_bd l
  intro i
  induction i with
  | zero =>
    intro _
    refine Ev.step (fun k => by apply batonlaw11_DriftBounds.l0.eq_2) ?_
    refine ev_ifn (by omega) ?_
    rw [show wrap64 (a + sm l - a) = sm l by rw [w64 (by omega) (by omega)]; omega]
    refine ev_if hb.1 (ev_if hb.2 (ev_if hc0 (ev_if hc1 ?_)))
    have hs := congrArg sm (List.take_append_drop c.toNat l)
    rw [sm_app] at hs
    have ht := sm_bd (l.take c.toNat)
    have hl1 : ((l.take c.toNat).length : Int) ≤ 200 := by simp; omega
    have hl2 : ((l.drop c.toNat).length : Int) ≤ 200 := by simp; omega
    refine ev_c (runs_sm h0 (by omega)) (ev_c (runs_sm (by omega) (by omega)) (ev_if (by omega) ?_))
    rw [List.drop_zero]
    refine ev_c (runs_sm h0 (by simp; omega)) (ev_if (by rw [sm_rev]) (ev_c Drift.live (Ev.now _)))
  | succ i ih =>
    intro hi
    have hlt : i < l.length := by omega
    have ih' := ih (by omega)
    refine Ev.step (fun k => by apply batonlaw11_DriftBounds.l0.eq_2) ?_
    refine ev_if (by omega) (ev_if (by omega) (ev_if (by omega) (ev_if (by simp; omega) ?_)))
    rw [show ((i + 1 : Nat) : Int) - 1 = (i : Int) by omega, show wrap64 ((i : Int) - 1) = (i : Int) - 1 by rw [w64 (by omega) (by omega)]]
    have e : rd l (i : Int) = l[i] := by simp [rd, List.getElem?_eq_getElem hlt]
    rw [e, show (l.drop (i + 1)).reverse ++ [l[i]] = (l.drop i).reverse by rw [List.drop_eq_getElem_cons hlt, List.reverse_cons]]
    exact ih'
theorem pure_holds : Pure := by
  intro a l c ha hl hc
  refine Ev.rounds (g := fun k => batonlaw11_DriftBounds.f k a l c) ?_
  unfold batonlaw11_DriftBounds.f
  have hlive : Ev (fun k => batonlaw11_DriftBounds.j0 k a l c (l.length : Int) true) true := by
    refine Ev.step (fun k => by apply batonlaw11_DriftBounds.j0.eq_2) ?_
    exact ev_if rfl (ev_c Drift.live (Ev.now _))
  by_cases h1 : (l.length : Int) > 200
  · exact ev_if h1 hlive
  refine ev_ifn h1 ?_
  by_cases h2 : a < 0
  · exact ev_if h2 hlive
  refine ev_ifn h2 ?_
  by_cases h3 : a > 549755813888
  · exact ev_if h3 hlive
  refine ev_ifn h3 ?_
  by_cases h4 : c < 0
  · exact ev_if h4 hlive
  refine ev_ifn h4 ?_
  by_cases h5 : c > (l.length : Int)
  · rw [show decide (c > (l.length : Int)) = true by simpa using h5]
    exact hlive
  rw [show decide (c > (l.length : Int)) = false by simpa using h5]
  refine Ev.step (fun k => by apply batonlaw11_DriftBounds.j0.eq_2) ?_
  refine ev_ifn (by simp) ?_
  have hsp : drift_Span.f (l.length : Int) = some (15 * (l.length : Int), 17 * (l.length : Int)) := by
    unfold drift_Span.f
    rw [if_neg (by omega), if_neg (by omega), w64 (by omega) (by omega), w64 (by omega) (by omega)]
  refine ev_c hsp (ev_c (runs_sm (by omega) (by omega)) ?_)
  have h := loop a l c (by omega) (by omega) (by omega) (by omega) (by omega) l.length (Nat.le_refl _)
  rw [List.drop_length, List.reverse_nil] at h
  rw [show wrap64 ((l.length : Int) - 1) = (l.length : Int) - 1 by rw [w64 (by omega) (by omega)]]
  exact h
end Go.Proofs.Ytfcbnheefipldaa.PM.GDriftBounds
