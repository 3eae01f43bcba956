-- made by a program of this session (wip/tools/myprint.py over the kit's print) out of the translation; Lean checks it
import Derived.Test.YtfcbnheefipldaaPM8
import Derived.Test.YtfcbnheefipldaaOpens
namespace Go.Proofs.Ytfcbnheefipldaa.PM.GDriftTight
open Go.RowKit Go.Proofs.YtfcbnheefipldaaW.PrintWords Go.Proofs.Ytfcbnheefipldaa.Opens Go.Proofs.Ytfcbnheefipldaa.PM
set_option linter.unusedVariables false
/-- The pure statement of batonlaw11_DriftTight. -/
def Pure : Prop := ∀ (a0 : Int), ((Lit.int .i64 a0).wf = true) → ∃ k, batonlaw11_DriftTight.f k a0 = some true
end Go.Proofs.Ytfcbnheefipldaa.PM.GDriftTight
