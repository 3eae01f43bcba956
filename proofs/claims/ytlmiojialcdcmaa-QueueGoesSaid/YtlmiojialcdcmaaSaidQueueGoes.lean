-- made by a program of this session (wip/tools/myprint.py over the kit's print) out of the translation; Lean checks it
import Derived.Test.YtlmiojialcdcmaaPM28
import Derived.Test.YtlmiojialcdcmaaOpens
namespace Go.Proofs.Ytlmiojialcdcmaa.PM.GQueueGoes
open Go.RowKit Go.Proofs.YtlmiojialcdcmaaW.PrintWords Go.Proofs.Ytlmiojialcdcmaa.Opens Go.Proofs.Ytlmiojialcdcmaa.PM
set_option linter.unusedVariables false
instance : Inhabited S24 := ⟨z24⟩
def G24 (x : S24) : Prop := ((Lit.int .i64 x.f0).wf = true) ∧ (x.f1.size ≤ maxLen) ∧ ((Lit.int .i64 x.f2).wf = true) ∧ (x.f3.size ≤ maxLen) ∧ (x.f4.size ≤ maxLen) ∧ ((Lit.int .i64 x.f5).wf = true) ∧ ((Lit.int .i64 x.f6).wf = true) ∧ ((Lit.int .i64 x.f7).wf = true) ∧ ((Lit.int .i64 x.f8).wf = true) ∧ ((Lit.int .i64 x.f9).wf = true)
theorem line24 : lineB Try.prog 24 [3, 9, 3, 9, 9, 3, 3, 3, 3, 22] = true := by kernel_rfl
theorem opens24 : Opens Try.prog 24 k24 G24 := OpensF.line line24 (OpensF.cons (Opens.int .i64 Try.underlying3) (OpensF.cons (Opens.string Try.underlying9) (OpensF.cons (Opens.int .i64 Try.underlying3) (OpensF.cons (Opens.string Try.underlying9) (OpensF.cons (Opens.string Try.underlying9) (OpensF.cons (Opens.int .i64 Try.underlying3) (OpensF.cons (Opens.int .i64 Try.underlying3) (OpensF.cons (Opens.int .i64 Try.underlying3) (OpensF.cons (Opens.int .i64 Try.underlying3) (OpensF.one (Opens.int .i64 Try.underlying22))))))))))) (fun x => (x.f0, x.f1, x.f2, x.f3, x.f4, x.f5, x.f6, x.f7, x.f8, x.f9)) (fun (x : Int × ByteArray × Int × ByteArray × ByteArray × Int × Int × Int × Int × Int) => (⟨x.1, x.2.1, x.2.2.1, x.2.2.2.1, x.2.2.2.2.1, x.2.2.2.2.2.1, x.2.2.2.2.2.2.1, x.2.2.2.2.2.2.2.1, x.2.2.2.2.2.2.2.2.1, x.2.2.2.2.2.2.2.2.2⟩ : S24)) (fun _ => rfl)
instance : Inhabited S49 := ⟨z49⟩
def G49 (x : S49) : Prop := (x.f0.size ≤ maxLen) ∧ (x.f1.size ≤ maxLen) ∧ ((Lit.int .i64 x.f2).wf = true) ∧ ((Lit.int .i64 x.f3).wf = true) ∧ ((Lit.int .i64 x.f4).wf = true) ∧ ((Lit.int .i64 x.f5).wf = true)
theorem line49 : lineB Try.prog 49 [9, 9, 3, 3, 3, 3] = true := by kernel_rfl
theorem opens49 : Opens Try.prog 49 k49 G49 := OpensF.line line49 (OpensF.cons (Opens.string Try.underlying9) (OpensF.cons (Opens.string Try.underlying9) (OpensF.cons (Opens.int .i64 Try.underlying3) (OpensF.cons (Opens.int .i64 Try.underlying3) (OpensF.cons (Opens.int .i64 Try.underlying3) (OpensF.one (Opens.int .i64 Try.underlying3))))))) (fun x => (x.f0, x.f1, x.f2, x.f3, x.f4, x.f5)) (fun (x : ByteArray × ByteArray × Int × Int × Int × Int) => (⟨x.1, x.2.1, x.2.2.1, x.2.2.2.1, x.2.2.2.2.1, x.2.2.2.2.2⟩ : S49)) (fun _ => rfl)
instance : Inhabited S65 := ⟨z65⟩
def G65 (x : S65) : Prop := ((Lit.int .i64 x.f0).wf = true) ∧ (True) ∧ (G49 x.f2)
theorem line65 : lineB Try.prog 65 [3, 4, 49] = true := by kernel_rfl
theorem opens65 : Opens Try.prog 65 k65 G65 := OpensF.line line65 (OpensF.cons (Opens.int .i64 Try.underlying3) (OpensF.cons (Opens.bool Try.underlying4) (OpensF.one opens49))) (fun x => (x.f0, x.f1, x.f2)) (fun (x : Int × Bool × S49) => (⟨x.1, x.2.1, x.2.2⟩ : S65)) (fun _ => rfl)
instance : Inhabited S43 := ⟨z43⟩
def G43 (x : S43) : Prop := ((Lit.int .i64 x.f0).wf = true) ∧ ((Lit.int .i64 x.f1).wf = true) ∧ ((Lit.int .i64 x.f2).wf = true) ∧ ((Lit.int .i64 x.f3).wf = true) ∧ ((Lit.int .i64 x.f4).wf = true) ∧ ((Lit.int .i64 x.f5).wf = true) ∧ (True) ∧ (x.f7.length ≤ maxLen ∧ ∀ y_xf7 ∈ x.f7, G49 y_xf7) ∧ (x.f8.length ≤ maxLen ∧ ∀ y_xf8 ∈ x.f8, G65 y_xf8)
theorem line43 : lineB Try.prog 43 [22, 3, 3, 3, 3, 3, 4, 40, 41] = true := by kernel_rfl
theorem opens43 : Opens Try.prog 43 k43 G43 := OpensF.line line43 (OpensF.cons (Opens.int .i64 Try.underlying22) (OpensF.cons (Opens.int .i64 Try.underlying3) (OpensF.cons (Opens.int .i64 Try.underlying3) (OpensF.cons (Opens.int .i64 Try.underlying3) (OpensF.cons (Opens.int .i64 Try.underlying3) (OpensF.cons (Opens.int .i64 Try.underlying3) (OpensF.cons (Opens.bool Try.underlying4) (OpensF.cons (Opens.slice (by kernel_rfl) (by kernel_rfl) opens49) (OpensF.one (Opens.slice (by kernel_rfl) (by kernel_rfl) opens65)))))))))) (fun x => (x.f0, x.f1, x.f2, x.f3, x.f4, x.f5, x.f6, x.f7, x.f8)) (fun (x : Int × Int × Int × Int × Int × Int × Bool × (List (S49)) × (List (S65))) => (⟨x.1, x.2.1, x.2.2.1, x.2.2.2.1, x.2.2.2.2.1, x.2.2.2.2.2.1, x.2.2.2.2.2.2.1, x.2.2.2.2.2.2.2.1, x.2.2.2.2.2.2.2.2⟩ : S43)) (fun _ => rfl)
/-- The pure statement of batonlaw19_QueueGoes. -/
def Pure : Prop := ∀ (x0 : S24) (x1 : S43), (G24 x0) → (G43 x1) → ∃ k, batonlaw19_QueueGoes.f k x0.f0 x0.f1 x0.f2 x0.f3 x0.f4 x0.f5 x0.f6 x0.f7 x0.f8 x0.f9 x1.f0 x1.f1 x1.f2 x1.f3 x1.f4 x1.f5 x1.f6 x1.f7 x1.f8 = some true
end Go.Proofs.Ytlmiojialcdcmaa.PM.GQueueGoes
