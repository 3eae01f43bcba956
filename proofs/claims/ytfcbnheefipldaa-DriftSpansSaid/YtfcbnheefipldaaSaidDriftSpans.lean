-- made by a program of this session (wip/tools/myprint.py over the kit's print) out of the translation; Lean checks it
import Derived.Test.YtfcbnheefipldaaPM7
import Derived.Test.YtfcbnheefipldaaOpens
namespace Go.Proofs.Ytfcbnheefipldaa.PM.GDriftSpans
open Go.RowKit Go.Proofs.YtfcbnheefipldaaW.PrintWords Go.Proofs.Ytfcbnheefipldaa.Opens Go.Proofs.Ytfcbnheefipldaa.PM
set_option linter.unusedVariables false
instance : Inhabited S27 := ⟨z27⟩
def G27 (x : S27) : Prop := ((Lit.int .i64 x.f0).wf = true) ∧ ((Lit.int .i64 x.f1).wf = true)
theorem line27 : lineB Try.prog 27 [3, 3] = true := by kernel_rfl
theorem opens27 : Opens Try.prog 27 k27 G27 := OpensF.line line27 (OpensF.cons (Opens.int .i64 Try.underlying3) (OpensF.one (Opens.int .i64 Try.underlying3))) (fun x => (x.f0, x.f1)) (fun (x : Int × Int) => (⟨x.1, x.2⟩ : S27)) (fun _ => rfl)
/-- The pure statement of batonlaw11_DriftSpans. -/
def Pure : Prop := ∀ (x0 : S27) (l1 : List Int) (l2 : List Int), (G27 x0) → (l1.length ≤ maxLen ∧ ∀ y_l1 ∈ l1, (Lit.int .i64 y_l1).wf = true) → (l2.length ≤ maxLen ∧ ∀ y_l2 ∈ l2, (Lit.int .i64 y_l2).wf = true) → ∃ k, batonlaw11_DriftSpans.f k x0.f0 x0.f1 l1 l2 = some true
end Go.Proofs.Ytfcbnheefipldaa.PM.GDriftSpans
