-- made by a program of this session (wip/tools/myprint.py over the kit's print) out of the translation; Lean checks it
import Derived.Test.YtdehdhkhcilckaaPM24
import Derived.Test.YtdehdhkhcilckaaOpens
namespace Go.Proofs.Ytdehdhkhcilckaa.PM.GPartyStarts
open Go.RowKit Go.Proofs.YtdehdhkhcilckaaW.PrintWords Go.Proofs.Ytdehdhkhcilckaa.Opens Go.Proofs.Ytdehdhkhcilckaa.PM
set_option linter.unusedVariables false
instance : Inhabited S24 := ⟨z24⟩
def G24 (x : S24) : Prop := ((Lit.int .i64 x.f0).wf = true) ∧ (x.f1.size ≤ maxLen) ∧ ((Lit.int .i64 x.f2).wf = true) ∧ (x.f3.size ≤ maxLen) ∧ (x.f4.size ≤ maxLen) ∧ ((Lit.int .i64 x.f5).wf = true) ∧ ((Lit.int .i64 x.f6).wf = true) ∧ ((Lit.int .i64 x.f7).wf = true) ∧ ((Lit.int .i64 x.f8).wf = true) ∧ ((Lit.int .i64 x.f9).wf = true)
theorem line24 : lineB Try.prog 24 [3, 9, 3, 9, 9, 3, 3, 3, 3, 22] = true := by kernel_rfl
theorem opens24 : Opens Try.prog 24 k24 G24 := OpensF.line line24 (OpensF.cons (Opens.int .i64 Try.underlying3) (OpensF.cons (Opens.string Try.underlying9) (OpensF.cons (Opens.int .i64 Try.underlying3) (OpensF.cons (Opens.string Try.underlying9) (OpensF.cons (Opens.string Try.underlying9) (OpensF.cons (Opens.int .i64 Try.underlying3) (OpensF.cons (Opens.int .i64 Try.underlying3) (OpensF.cons (Opens.int .i64 Try.underlying3) (OpensF.cons (Opens.int .i64 Try.underlying3) (OpensF.one (Opens.int .i64 Try.underlying22))))))))))) (fun x => (x.f0, x.f1, x.f2, x.f3, x.f4, x.f5, x.f6, x.f7, x.f8, x.f9)) (fun (x : Int × ByteArray × Int × ByteArray × ByteArray × Int × Int × Int × Int × Int) => (⟨x.1, x.2.1, x.2.2.1, x.2.2.2.1, x.2.2.2.2.1, x.2.2.2.2.2.1, x.2.2.2.2.2.2.1, x.2.2.2.2.2.2.2.1, x.2.2.2.2.2.2.2.2.1, x.2.2.2.2.2.2.2.2.2⟩ : S24)) (fun _ => rfl)
instance : Inhabited S43 := ⟨z43⟩
def G43 (x : S43) : Prop := (x.f0.size ≤ maxLen) ∧ (x.f1.size ≤ maxLen) ∧ ((Lit.int .i64 x.f2).wf = true) ∧ ((Lit.int .i64 x.f3).wf = true) ∧ ((Lit.int .i64 x.f4).wf = true) ∧ ((Lit.int .i64 x.f5).wf = true)
theorem line43 : lineB Try.prog 43 [9, 9, 3, 3, 3, 3] = true := by kernel_rfl
theorem opens43 : Opens Try.prog 43 k43 G43 := OpensF.line line43 (OpensF.cons (Opens.string Try.underlying9) (OpensF.cons (Opens.string Try.underlying9) (OpensF.cons (Opens.int .i64 Try.underlying3) (OpensF.cons (Opens.int .i64 Try.underlying3) (OpensF.cons (Opens.int .i64 Try.underlying3) (OpensF.one (Opens.int .i64 Try.underlying3))))))) (fun x => (x.f0, x.f1, x.f2, x.f3, x.f4, x.f5)) (fun (x : ByteArray × ByteArray × Int × Int × Int × Int) => (⟨x.1, x.2.1, x.2.2.1, x.2.2.2.1, x.2.2.2.2.1, x.2.2.2.2.2⟩ : S43)) (fun _ => rfl)
/-- The pure statement of batonlaw18_PartyStarts. -/
def Pure : Prop := ∀ (x0 : S24) (a1 : Int) (l2 : List (S43)), (G24 x0) → ((Lit.int .i64 a1).wf = true) → (l2.length ≤ maxLen ∧ ∀ y_l2 ∈ l2, G43 y_l2) → ∃ k, batonlaw18_PartyStarts.f k x0.f0 x0.f1 x0.f2 x0.f3 x0.f4 x0.f5 x0.f6 x0.f7 x0.f8 x0.f9 a1 l2 = some true
end Go.Proofs.Ytdehdhkhcilckaa.PM.GPartyStarts
