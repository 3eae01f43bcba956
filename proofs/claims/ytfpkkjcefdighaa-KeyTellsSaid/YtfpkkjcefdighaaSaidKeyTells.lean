-- made by a program of this session (wip/tools/myprint.py over the kit's print) out of the translation; Lean checks it
import Derived.Test.YtfpkkjcefdighaaPM15
import Derived.Test.YtfpkkjcefdighaaOpens
namespace Go.Proofs.Ytfpkkjcefdighaa.PM.GKeyTells
open Go.RowKit Go.Proofs.YtfpkkjcefdighaaW.PrintWords Go.Proofs.Ytfpkkjcefdighaa.Opens Go.Proofs.Ytfpkkjcefdighaa.PM
set_option linter.unusedVariables false
/-- The pure statement of batonlaw02_KeyTells. -/
def Pure : Prop := ∀ (a0 : ByteArray) (a1 : Int) (a2 : Int), (a0.size ≤ maxLen) → ((Lit.int .i64 a1).wf = true) → ((Lit.int .i64 a2).wf = true) → ∃ k, batonlaw02_KeyTells.f k a0 a1 a2 = some true
end Go.Proofs.Ytfpkkjcefdighaa.PM.GKeyTells
