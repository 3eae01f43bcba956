/- DriftRuns: the pure statement, out of the plain laws of clocks. -/
import Derived.Test.YtfcbnheefipldaaSaidDriftRuns
import Derived.Test.YtfcbnheefipldaaDrift
namespace Go.Proofs.Ytfcbnheefipldaa.PM.GDriftRuns
open Go.RowKit Go.Proofs.YtfcbnheefipldaaW.PrintWords Go.Proofs.YtfcbnheefipldaaW.PrintLast Go.Proofs.YtfcbnheefipldaaW.PrintMore Go.Proofs.Ytfcbnheefipldaa.PM Go.Proofs.Ytfcbnheefipldaa.My
set_option linter.unusedVariables false
theorem loop (a : Int) (l : List Int) (st : Bool) (hl : l.length ≤ 200) (d : Nat) : ∀ i : Nat, l.length = i + d → Ev (fun k => batonlaw11_DriftRuns.l0 k a l st (i : Int)) true := by
  induction d with
  | zero =>
    intro i hd
    refine Ev.step (fun k => by apply batonlaw11_DriftRuns.l0.eq_2) ?_
    refine ev_ifn (by omega) ?_
    refine ev_c (Drift.run_eq _ _ _) (ev_b (Drift.run_ref _ _ _ (by omega)) (ev_if rfl ?_))
    exact ev_c Drift.live (Ev.now _)
  | succ d ih =>
    intro i hd
    refine Ev.step (fun k => by apply batonlaw11_DriftRuns.l0.eq_2) ?_
    refine ev_if (by omega) (ev_if (by omega) (ev_c (Drift.rate _ _) (ev_b (Drift.rate_ref _ _) (ev_if rfl ?_))))
    rw [show wrap64 ((i : Int) + 1) = ((i + 1 : Nat) : Int) by rw [w64 (by omega) (by omega)]; omega]
    exact ih (i + 1) (by omega)
theorem pure_holds : Pure := by
  intro a l st ha hl
  refine Ev.rounds (g := fun k => batonlaw11_DriftRuns.f k a l st) ?_
  unfold batonlaw11_DriftRuns.f
  by_cases h : (l.length : Int) > 200
  · exact ev_if h (ev_c Drift.live (Ev.now _))
  · refine ev_ifn h ?_
    exact loop a l st (by omega) l.length 0 (by omega)
end Go.Proofs.Ytfcbnheefipldaa.PM.GDriftRuns
