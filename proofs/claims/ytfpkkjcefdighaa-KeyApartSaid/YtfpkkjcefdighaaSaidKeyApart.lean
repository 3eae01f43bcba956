-- made by a program of this session (wip/tools/myprint.py over the kit's print) out of the translation; Lean checks it
import Derived.Test.YtfpkkjcefdighaaPM15
import Derived.Test.YtfpkkjcefdighaaOpens
namespace Go.Proofs.Ytfpkkjcefdighaa.PM.GKeyApart
open Go.RowKit Go.Proofs.YtfpkkjcefdighaaW.PrintWords Go.Proofs.Ytfpkkjcefdighaa.Opens Go.Proofs.Ytfpkkjcefdighaa.PM
set_option linter.unusedVariables false
instance : Inhabited S33 := ⟨z33⟩
def G33 (x : S33) : Prop := ((Lit.int .i64 x.f0).wf = true) ∧ ((Lit.int .i64 x.f1).wf = true)
theorem line33 : lineB Try.prog 33 [3, 3] = true := by kernel_rfl
theorem opens33 : Opens Try.prog 33 k33 G33 := OpensF.line line33 (OpensF.cons (Opens.int .i64 Try.underlying3) (OpensF.one (Opens.int .i64 Try.underlying3))) (fun x => (x.f0, x.f1)) (fun (x : Int × Int) => (⟨x.1, x.2⟩ : S33)) (fun _ => rfl)
instance : Inhabited S34 := ⟨z34⟩
def G34 (x : S34) : Prop := (x.f0.size ≤ maxLen) ∧ (x.f1.size ≤ maxLen)
theorem line34 : lineB Try.prog 34 [9, 9] = true := by kernel_rfl
theorem opens34 : Opens Try.prog 34 k34 G34 := OpensF.line line34 (OpensF.cons (Opens.string Try.underlying9) (OpensF.one (Opens.string Try.underlying9))) (fun x => (x.f0, x.f1)) (fun (x : ByteArray × ByteArray) => (⟨x.1, x.2⟩ : S34)) (fun _ => rfl)
/-- The pure statement of batonlaw02_KeyApart. -/
def Pure : Prop := ∀ (x0 : S33) (x1 : S34) (x2 : S33), (G33 x0) → (G34 x1) → (G33 x2) → ∃ k, batonlaw02_KeyApart.f k x0.f0 x0.f1 x1.f0 x1.f1 x2.f0 x2.f1 = some true
end Go.Proofs.Ytfpkkjcefdighaa.PM.GKeyApart
