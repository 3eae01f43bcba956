-- made by a program of this session (wip/tools/myprint.py over the kit's print) out of the translation; Lean checks it
import Derived.Test.YtfpkkjcefdighaaPM17
import Derived.Test.YtfpkkjcefdighaaOpens
namespace Go.Proofs.Ytfpkkjcefdighaa.PM.GKeyOrder
open Go.RowKit Go.Proofs.YtfpkkjcefdighaaW.PrintWords Go.Proofs.Ytfpkkjcefdighaa.Opens Go.Proofs.Ytfpkkjcefdighaa.PM
set_option linter.unusedVariables false
instance : Inhabited S33 := ⟨z33⟩
def G33 (x : S33) : Prop := ((Lit.int .i64 x.f0).wf = true) ∧ ((Lit.int .i64 x.f1).wf = true)
theorem line33 : lineB Try.prog 33 [3, 3] = true := by kernel_rfl
theorem opens33 : Opens Try.prog 33 k33 G33 := OpensF.line line33 (OpensF.cons (Opens.int .i64 Try.underlying3) (OpensF.one (Opens.int .i64 Try.underlying3))) (fun x => (x.f0, x.f1)) (fun (x : Int × Int) => (⟨x.1, x.2⟩ : S33)) (fun _ => rfl)
/-- The pure statement of batonlaw02_KeyOrder. -/
def Pure : Prop := ∀ (a0 : Int) (a1 : ByteArray) (x2 : S33), ((Lit.int .i64 a0).wf = true) → (a1.size ≤ maxLen) → (G33 x2) → ∃ k, batonlaw02_KeyOrder.f k a0 a1 x2.f0 x2.f1 = some true
end Go.Proofs.Ytfpkkjcefdighaa.PM.GKeyOrder
