-- made by a program of this session (wip/tools/myprint.py over the kit's print) out of the translation; Lean checks it
import Derived.Test.YtaebmmjhokjdbaaPM36
import Derived.Test.YtaebmmjhokjdbaaOpens
namespace Go.Proofs.Ytaebmmjhokjdbaa.PM.GElectSays
open Go.RowKit Go.Proofs.YtaebmmjhokjdbaaW.PrintWords Go.Proofs.Ytaebmmjhokjdbaa.Opens Go.Proofs.Ytaebmmjhokjdbaa.PM
set_option linter.unusedVariables false
instance : Inhabited S26 := ⟨z26⟩
def G26 (x : S26) : Prop := (x.f0.size ≤ maxLen) ∧ (x.f1.size ≤ maxLen) ∧ ((Lit.int .i64 x.f2).wf = true) ∧ ((Lit.int .i64 x.f3).wf = true) ∧ ((Lit.int .i64 x.f4).wf = true) ∧ ((Lit.int .i64 x.f5).wf = true)
theorem line26 : lineB Try.prog 26 [9, 9, 3, 3, 3, 3] = true := by kernel_rfl
theorem opens26 : Opens Try.prog 26 k26 G26 := OpensF.line line26 (OpensF.cons (Opens.string Try.underlying9) (OpensF.cons (Opens.string Try.underlying9) (OpensF.cons (Opens.int .i64 Try.underlying3) (OpensF.cons (Opens.int .i64 Try.underlying3) (OpensF.cons (Opens.int .i64 Try.underlying3) (OpensF.one (Opens.int .i64 Try.underlying3))))))) (fun x => (x.f0, x.f1, x.f2, x.f3, x.f4, x.f5)) (fun (x : ByteArray × ByteArray × Int × Int × Int × Int) => (⟨x.1, x.2.1, x.2.2.1, x.2.2.2.1, x.2.2.2.2.1, x.2.2.2.2.2⟩ : S26)) (fun _ => rfl)
/-- The pure statement of batonlaw17_ElectSays. -/
def Pure : Prop := ∀ (l0 : List (S26)) (a1 : ByteArray) (a2 : Int), (l0.length ≤ maxLen ∧ ∀ y_l0 ∈ l0, G26 y_l0) → (a1.size ≤ maxLen) → ((Lit.int .i64 a2).wf = true) → ∃ k, batonlaw17_ElectSays.f k l0 a1 a2 = some true
end Go.Proofs.Ytaebmmjhokjdbaa.PM.GElectSays
