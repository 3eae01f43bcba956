-- made by a program of this session (wip/tools/myprint.py over the kit's print) out of the translation; Lean checks it
import Derived.Test.YtfcbnheefipldaaPM9
import Derived.Test.YtfcbnheefipldaaOpens
namespace Go.Proofs.Ytfcbnheefipldaa.PM.GDriftBounds
open Go.RowKit Go.Proofs.YtfcbnheefipldaaW.PrintWords Go.Proofs.Ytfcbnheefipldaa.Opens Go.Proofs.Ytfcbnheefipldaa.PM
set_option linter.unusedVariables false
/-- The pure statement of batonlaw11_DriftBounds. -/
def Pure : Prop := ∀ (a0 : Int) (l1 : List Int) (a2 : Int), ((Lit.int .i64 a0).wf = true) → (l1.length ≤ maxLen ∧ ∀ y_l1 ∈ l1, (Lit.int .i64 y_l1).wf = true) → ((Lit.int .i64 a2).wf = true) → ∃ k, batonlaw11_DriftBounds.f k a0 l1 a2 = some true
end Go.Proofs.Ytfcbnheefipldaa.PM.GDriftBounds
