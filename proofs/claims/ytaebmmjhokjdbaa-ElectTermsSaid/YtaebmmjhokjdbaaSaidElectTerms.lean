-- made by a program of this session (wip/tools/myprint.py over the kit's print) out of the translation; Lean checks it
import Derived.Test.YtaebmmjhokjdbaaPM33
import Derived.Test.YtaebmmjhokjdbaaOpens
namespace Go.Proofs.Ytaebmmjhokjdbaa.PM.GElectTerms
open Go.RowKit Go.Proofs.YtaebmmjhokjdbaaW.PrintWords Go.Proofs.Ytaebmmjhokjdbaa.Opens Go.Proofs.Ytaebmmjhokjdbaa.PM
set_option linter.unusedVariables false
instance : Inhabited S26 := ⟨z26⟩
def G26 (x : S26) : Prop := (x.f0.size ≤ maxLen) ∧ (x.f1.size ≤ maxLen) ∧ ((Lit.int .i64 x.f2).wf = true) ∧ ((Lit.int .i64 x.f3).wf = true) ∧ ((Lit.int .i64 x.f4).wf = true) ∧ ((Lit.int .i64 x.f5).wf = true)
theorem line26 : lineB Try.prog 26 [9, 9, 3, 3, 3, 3] = true := by kernel_rfl
theorem opens26 : Opens Try.prog 26 k26 G26 := OpensF.line line26 (OpensF.cons (Opens.string Try.underlying9) (OpensF.cons (Opens.string Try.underlying9) (OpensF.cons (Opens.int .i64 Try.underlying3) (OpensF.cons (Opens.int .i64 Try.underlying3) (OpensF.cons (Opens.int .i64 Try.underlying3) (OpensF.one (Opens.int .i64 Try.underlying3))))))) (fun x => (x.f0, x.f1, x.f2, x.f3, x.f4, x.f5)) (fun (x : ByteArray × ByteArray × Int × Int × Int × Int) => (⟨x.1, x.2.1, x.2.2.1, x.2.2.2.1, x.2.2.2.2.1, x.2.2.2.2.2⟩ : S26)) (fun _ => rfl)
instance : Inhabited S54 := ⟨z54⟩
def G54 (x : S54) : Prop := ((Lit.int .i64 x.f0).wf = true) ∧ (True) ∧ (G26 x.f2)
theorem line54 : lineB Try.prog 54 [3, 4, 26] = true := by kernel_rfl
theorem opens54 : Opens Try.prog 54 k54 G54 := OpensF.line line54 (OpensF.cons (Opens.int .i64 Try.underlying3) (OpensF.cons (Opens.bool Try.underlying4) (OpensF.one opens26))) (fun x => (x.f0, x.f1, x.f2)) (fun (x : Int × Bool × S26) => (⟨x.1, x.2.1, x.2.2⟩ : S54)) (fun _ => rfl)
instance : Inhabited S42 := ⟨z42⟩
def G42 (x : S42) : Prop := ((Lit.int .i64 x.f0).wf = true) ∧ ((Lit.int .i64 x.f1).wf = true) ∧ (x.f2.length ≤ maxLen ∧ ∀ y_xf2 ∈ x.f2, G26 y_xf2) ∧ (x.f3.length ≤ maxLen ∧ ∀ y_xf3 ∈ x.f3, G54 y_xf3)
theorem line42 : lineB Try.prog 42 [3, 3, 22, 35] = true := by kernel_rfl
theorem opens42 : Opens Try.prog 42 k42 G42 := OpensF.line line42 (OpensF.cons (Opens.int .i64 Try.underlying3) (OpensF.cons (Opens.int .i64 Try.underlying3) (OpensF.cons (Opens.slice (by kernel_rfl) (by kernel_rfl) opens26) (OpensF.one (Opens.slice (by kernel_rfl) (by kernel_rfl) opens54))))) (fun x => (x.f0, x.f1, x.f2, x.f3)) (fun (x : Int × Int × (List (S26)) × (List (S54))) => (⟨x.1, x.2.1, x.2.2.1, x.2.2.2⟩ : S42)) (fun _ => rfl)
/-- The pure statement of batonlaw17_ElectTerms. -/
def Pure : Prop := ∀ (x0 : S42) (a1 : ByteArray) (a2 : Int), (G42 x0) → (a1.size ≤ maxLen) → ((Lit.int .i64 a2).wf = true) → ∃ k, batonlaw17_ElectTerms.f k x0.f0 x0.f1 x0.f2 x0.f3 a1 a2 = some true
end Go.Proofs.Ytaebmmjhokjdbaa.PM.GElectTerms
