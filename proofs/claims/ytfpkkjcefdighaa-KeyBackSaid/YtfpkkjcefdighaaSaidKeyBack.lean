-- made by a program of this session (wip/tools/myprint.py over the kit's print) out of the translation; Lean checks it
import Derived.Test.YtfpkkjcefdighaaPM17
import Derived.Test.YtfpkkjcefdighaaOpens
namespace Go.Proofs.Ytfpkkjcefdighaa.PM.GKeyBack
open Go.RowKit Go.Proofs.YtfpkkjcefdighaaW.PrintWords Go.Proofs.Ytfpkkjcefdighaa.Opens Go.Proofs.Ytfpkkjcefdighaa.PM
set_option linter.unusedVariables false
/-- The pure statement of batonlaw02_KeyBack. -/
def Pure : Prop := ∀ (a0 : Int) (a1 : ByteArray) (a2 : Int), ((Lit.int .i64 a0).wf = true) → (a1.size ≤ maxLen) → ((Lit.int .i64 a2).wf = true) → batonlaw02_KeyBack.f a0 a1 a2 = some true
end Go.Proofs.Ytfpkkjcefdighaa.PM.GKeyBack
