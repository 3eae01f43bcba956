-- made by a program of this session (wip/tools/myprint.py over the kit's print) out of the translation; Lean checks it
import Derived.Test.YtjhfidafeeiogaaPM21
import Derived.Test.YtjhfidafeeiogaaOpens
namespace Go.Proofs.Ytjhfidafeeiogaa.PM.GTicketNext
open Go.RowKit Go.Proofs.YtjhfidafeeiogaaW.PrintWords Go.Proofs.Ytjhfidafeeiogaa.Opens Go.Proofs.Ytjhfidafeeiogaa.PM
set_option linter.unusedVariables false
instance : Inhabited S39 := ⟨z39⟩
def G39 (x : S39) : Prop := (x.f0.size ≤ maxLen) ∧ (x.f1.size ≤ maxLen) ∧ ((Lit.int .i64 x.f2).wf = true) ∧ ((Lit.int .i64 x.f3).wf = true) ∧ ((Lit.int .i64 x.f4).wf = true) ∧ ((Lit.int .i64 x.f5).wf = true)
theorem line39 : lineB Try.prog 39 [9, 9, 3, 3, 3, 3] = true := by kernel_rfl
theorem opens39 : Opens Try.prog 39 k39 G39 := OpensF.line line39 (OpensF.cons (Opens.string Try.underlying9) (OpensF.cons (Opens.string Try.underlying9) (OpensF.cons (Opens.int .i64 Try.underlying3) (OpensF.cons (Opens.int .i64 Try.underlying3) (OpensF.cons (Opens.int .i64 Try.underlying3) (OpensF.one (Opens.int .i64 Try.underlying3))))))) (fun x => (x.f0, x.f1, x.f2, x.f3, x.f4, x.f5)) (fun (x : ByteArray × ByteArray × Int × Int × Int × Int) => (⟨x.1, x.2.1, x.2.2.1, x.2.2.2.1, x.2.2.2.2.1, x.2.2.2.2.2⟩ : S39)) (fun _ => rfl)
/-- The pure statement of batonlaw15_TicketNext. -/
def Pure : Prop := ∀ (l0 : List (S39)) (a1 : Int), (l0.length ≤ maxLen ∧ ∀ y_l0 ∈ l0, G39 y_l0) → ((Lit.int .i64 a1).wf = true) → ∃ k, batonlaw15_TicketNext.f k l0 a1 = some true
end Go.Proofs.Ytjhfidafeeiogaa.PM.GTicketNext
