/- DriftTight: the pure statement: 58 cases, each reckoned by the kernel. -/
import Derived.Test.YtfcbnheefipldaaSaidDriftTight
import Derived.Test.YtfcbnheefipldaaDrift
namespace Go.Proofs.Ytfcbnheefipldaa.PM.GDriftTight
open Go.RowKit Go.Proofs.YtfcbnheefipldaaW.PrintWords Go.Proofs.YtfcbnheefipldaaW.PrintLast Go.Proofs.YtfcbnheefipldaaW.PrintMore Go.Proofs.Ytfcbnheefipldaa.PM Go.Proofs.Ytfcbnheefipldaa.My
set_option linter.unusedVariables false
theorem each : ∀ n : Fin 58, batonlaw11_DriftTight.f 80 ((n.val : Int) + 1) = some true := by decide +kernel
theorem pure_holds : Pure := by
  intro t ht
  by_cases h : t < 1 ∨ t > 58
  · refine Ev.rounds (g := fun k => batonlaw11_DriftTight.f k t) ?_
    unfold batonlaw11_DriftTight.f
    have hlive : Ev (fun k => batonlaw11_DriftTight.j0 k t true) true := by
      refine Ev.step (fun k => by apply batonlaw11_DriftTight.j0.eq_2) ?_
      exact ev_if rfl (ev_c Drift.live (Ev.now _))
    by_cases h1 : t < 1
    · exact ev_if h1 hlive
    · refine ev_ifn h1 ?_
      rw [show decide (t > 58) = true by simp; omega]
      exact hlive
  · have e := each ⟨(t - 1).toNat, by omega⟩
    refine ⟨80, ?_⟩
    rw [show (((⟨(t - 1).toNat, by omega⟩ : Fin 58).val : Nat) : Int) + 1 = t by simp; omega] at e
    exact e
end Go.Proofs.Ytfcbnheefipldaa.PM.GDriftTight
