-- made by a program of this session (wip/tools/myprint.py over the kit's print) out of the translation; Lean checks it
import Derived.Test.YtfdfilgohcbgfaaPM15
import Derived.Test.YtfdfilgohcbgfaaOpens
namespace Go.Proofs.Ytfdfilgohcbgfaa.PM.GBagTakes
open Go.RowKit Go.Proofs.YtfdfilgohcbgfaaW.PrintWords Go.Proofs.Ytfdfilgohcbgfaa.Opens Go.Proofs.Ytfdfilgohcbgfaa.PM
set_option linter.unusedVariables false
instance : Inhabited S31 := ⟨z31⟩
def G31 (x : S31) : Prop := ((Lit.int .i64 x.f0).wf = true) ∧ ((Lit.int .i64 x.f1).wf = true) ∧ (x.f2.size ≤ maxLen)
theorem line31 : lineB Try.prog 31 [3, 3, 9] = true := by kernel_rfl
theorem opens31 : Opens Try.prog 31 k31 G31 := OpensF.line line31 (OpensF.cons (Opens.int .i64 Try.underlying3) (OpensF.cons (Opens.int .i64 Try.underlying3) (OpensF.one (Opens.string Try.underlying9)))) (fun x => (x.f0, x.f1, x.f2)) (fun (x : Int × Int × ByteArray) => (⟨x.1, x.2.1, x.2.2⟩ : S31)) (fun _ => rfl)
instance : Inhabited S29 := ⟨z29⟩
def G29 (x : S29) : Prop := ((Lit.int .i64 x.f0).wf = true) ∧ ((Lit.int .i64 x.f1).wf = true)
theorem line29 : lineB Try.prog 29 [3, 3] = true := by kernel_rfl
theorem opens29 : Opens Try.prog 29 k29 G29 := OpensF.line line29 (OpensF.cons (Opens.int .i64 Try.underlying3) (OpensF.one (Opens.int .i64 Try.underlying3))) (fun x => (x.f0, x.f1)) (fun (x : Int × Int) => (⟨x.1, x.2⟩ : S29)) (fun _ => rfl)
/-- The pure statement of batonlaw12_BagTakes. -/
def Pure : Prop := ∀ (l0 : List (S31)) (a1 : Int) (x2 : S29), (l0.length ≤ maxLen ∧ ∀ y_l0 ∈ l0, G31 y_l0) → ((Lit.int .i64 a1).wf = true) → (G29 x2) → ∃ k, batonlaw12_BagTakes.f k l0 a1 x2.f0 x2.f1 = some true
end Go.Proofs.Ytfdfilgohcbgfaa.PM.GBagTakes
