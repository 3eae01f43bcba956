-- made by a program of this session (wip/tools/myprint.py over the kit's print) out of the translation; Lean checks it
import Derived.Test.YtpfgmladebgdaaaPM30
import Derived.Test.YtpfgmladebgdaaaOpens
namespace Go.Proofs.Ytpfgmladebgdaaa.PM.GLockStarts
open Go.RowKit Go.Proofs.YtpfgmladebgdaaaW.PrintWords Go.Proofs.Ytpfgmladebgdaaa.Opens Go.Proofs.Ytpfgmladebgdaaa.PM
set_option linter.unusedVariables false
instance : Inhabited S24 := ⟨z24⟩
def G24 (x : S24) : Prop := ((Lit.int .i64 x.f0).wf = true) ∧ (x.f1.size ≤ maxLen) ∧ ((Lit.int .i64 x.f2).wf = true) ∧ (x.f3.size ≤ maxLen) ∧ (x.f4.size ≤ maxLen) ∧ ((Lit.int .i64 x.f5).wf = true) ∧ ((Lit.int .i64 x.f6).wf = true) ∧ ((Lit.int .i64 x.f7).wf = true) ∧ ((Lit.int .i64 x.f8).wf = true) ∧ ((Lit.int .i64 x.f9).wf = true)
theorem line24 : lineB Try.prog 24 [3, 9, 3, 9, 9, 3, 3, 3, 3, 22] = true := by kernel_rfl
theorem opens24 : Opens Try.prog 24 k24 G24 := OpensF.line line24 (OpensF.cons (Opens.int .i64 Try.underlying3) (OpensF.cons (Opens.string Try.underlying9) (OpensF.cons (Opens.int .i64 Try.underlying3) (OpensF.cons (Opens.string Try.underlying9) (OpensF.cons (Opens.string Try.underlying9) (OpensF.cons (Opens.int .i64 Try.underlying3) (OpensF.cons (Opens.int .i64 Try.underlying3) (OpensF.cons (Opens.int .i64 Try.underlying3) (OpensF.cons (Opens.int .i64 Try.underlying3) (OpensF.one (Opens.int .i64 Try.underlying22))))))))))) (fun x => (x.f0, x.f1, x.f2, x.f3, x.f4, x.f5, x.f6, x.f7, x.f8, x.f9)) (fun (x : Int × ByteArray × Int × ByteArray × ByteArray × Int × Int × Int × Int × Int) => (⟨x.1, x.2.1, x.2.2.1, x.2.2.2.1, x.2.2.2.2.1, x.2.2.2.2.2.1, x.2.2.2.2.2.2.1, x.2.2.2.2.2.2.2.1, x.2.2.2.2.2.2.2.2.1, x.2.2.2.2.2.2.2.2.2⟩ : S24)) (fun _ => rfl)
instance : Inhabited S25 := ⟨z25⟩
def G25 (x : S25) : Prop := ((Lit.int .i64 x.f0).wf = true) ∧ ((Lit.int .i64 x.f1).wf = true)
theorem line25 : lineB Try.prog 25 [3, 3] = true := by kernel_rfl
theorem opens25 : Opens Try.prog 25 k25 G25 := OpensF.line line25 (OpensF.cons (Opens.int .i64 Try.underlying3) (OpensF.one (Opens.int .i64 Try.underlying3))) (fun x => (x.f0, x.f1)) (fun (x : Int × Int) => (⟨x.1, x.2⟩ : S25)) (fun _ => rfl)
/-- The pure statement of batonlaw16_LockStarts. -/
def Pure : Prop := ∀ (x0 : S24) (x1 : S25) (a2 : ByteArray), (G24 x0) → (G25 x1) → (a2.size ≤ maxLen) → ∃ k, batonlaw16_LockStarts.f k x0.f0 x0.f1 x0.f2 x0.f3 x0.f4 x0.f5 x0.f6 x0.f7 x0.f8 x0.f9 x1.f0 x1.f1 a2 = some true
end Go.Proofs.Ytpfgmladebgdaaa.PM.GLockStarts
