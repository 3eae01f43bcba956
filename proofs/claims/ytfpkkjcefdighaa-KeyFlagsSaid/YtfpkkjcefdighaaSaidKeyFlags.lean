-- made by a program of this session (wip/tools/myprint.py over the kit's print) out of the translation; Lean checks it
import Derived.Test.YtfpkkjcefdighaaPM17
import Derived.Test.YtfpkkjcefdighaaOpens
namespace Go.Proofs.Ytfpkkjcefdighaa.PM.GKeyFlags
open Go.RowKit Go.Proofs.YtfpkkjcefdighaaW.PrintWords Go.Proofs.Ytfpkkjcefdighaa.Opens Go.Proofs.Ytfpkkjcefdighaa.PM
set_option linter.unusedVariables false
/-- The pure statement of batonlaw02_KeyFlags. -/
def Pure : Prop := ∀ (a0 : ByteArray) (a1 : Int), (a0.size ≤ maxLen) → ((Lit.int .i64 a1).wf = true) → batonlaw02_KeyFlags.f a0 a1 = some true
end Go.Proofs.Ytfpkkjcefdighaa.PM.GKeyFlags
