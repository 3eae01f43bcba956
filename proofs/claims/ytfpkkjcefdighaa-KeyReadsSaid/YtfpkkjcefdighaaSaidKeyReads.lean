-- made by a program of this session (wip/tools/myprint.py over the kit's print) out of the translation; Lean checks it
import Derived.Test.YtfpkkjcefdighaaPM16
import Derived.Test.YtfpkkjcefdighaaOpens
namespace Go.Proofs.Ytfpkkjcefdighaa.PM.GKeyReads
open Go.RowKit Go.Proofs.YtfpkkjcefdighaaW.PrintWords Go.Proofs.Ytfpkkjcefdighaa.Opens Go.Proofs.Ytfpkkjcefdighaa.PM
set_option linter.unusedVariables false
/-- The pure statement of batonlaw02_KeyReads. -/
def Pure : Prop := ∀ (a0 : ByteArray) (a1 : ByteArray), (a0.size ≤ maxLen) → (a1.size ≤ maxLen) → ∃ k, batonlaw02_KeyReads.f k a0 a1 = some true
end Go.Proofs.Ytfpkkjcefdighaa.PM.GKeyReads
