-- made by a program of this session (wip/tools/myprint.py over the kit's print) out of the translation; Lean checks it
import Derived.Test.YtldblgcbmhkmaaaPM19
import Derived.Test.YtldblgcbmhkmaaaOpens
namespace Go.Proofs.Ytldblgcbmhkmaaa.PM.GHistParts
open Go.RowKit Go.Proofs.YtldblgcbmhkmaaaW.PrintWords Go.Proofs.Ytldblgcbmhkmaaa.Opens Go.Proofs.Ytldblgcbmhkmaaa.PM
set_option linter.unusedVariables false
instance : Inhabited S26 := ⟨z26⟩
def G26 (x : S26) : Prop := (x.f0.size ≤ maxLen) ∧ (x.f1.size ≤ maxLen) ∧ ((Lit.int .i64 x.f2).wf = true) ∧ ((Lit.int .i64 x.f3).wf = true) ∧ ((Lit.int .i64 x.f4).wf = true) ∧ ((Lit.int .i64 x.f5).wf = true)
theorem line26 : lineB Try.prog 26 [9, 9, 3, 3, 3, 3] = true := by kernel_rfl
theorem opens26 : Opens Try.prog 26 k26 G26 := OpensF.line line26 (OpensF.cons (Opens.string Try.underlying9) (OpensF.cons (Opens.string Try.underlying9) (OpensF.cons (Opens.int .i64 Try.underlying3) (OpensF.cons (Opens.int .i64 Try.underlying3) (OpensF.cons (Opens.int .i64 Try.underlying3) (OpensF.one (Opens.int .i64 Try.underlying3))))))) (fun x => (x.f0, x.f1, x.f2, x.f3, x.f4, x.f5)) (fun (x : ByteArray × ByteArray × Int × Int × Int × Int) => (⟨x.1, x.2.1, x.2.2.1, x.2.2.2.1, x.2.2.2.2.1, x.2.2.2.2.2⟩ : S26)) (fun _ => rfl)
instance : Inhabited S38 := ⟨z38⟩
def G38 (x : S38) : Prop := ((Lit.int .i64 x.f0).wf = true) ∧ (True) ∧ (G26 x.f2)
theorem line38 : lineB Try.prog 38 [3, 4, 26] = true := by kernel_rfl
theorem opens38 : Opens Try.prog 38 k38 G38 := OpensF.line line38 (OpensF.cons (Opens.int .i64 Try.underlying3) (OpensF.cons (Opens.bool Try.underlying4) (OpensF.one opens26))) (fun x => (x.f0, x.f1, x.f2)) (fun (x : Int × Bool × S26) => (⟨x.1, x.2.1, x.2.2⟩ : S38)) (fun _ => rfl)
instance : Inhabited S43 := ⟨z43⟩
def G43 (x : S43) : Prop := ((Lit.int .i64 x.f0).wf = true) ∧ ((Lit.int .i64 x.f1).wf = true)
theorem line43 : lineB Try.prog 43 [3, 3] = true := by kernel_rfl
theorem opens43 : Opens Try.prog 43 k43 G43 := OpensF.line line43 (OpensF.cons (Opens.int .i64 Try.underlying3) (OpensF.one (Opens.int .i64 Try.underlying3))) (fun x => (x.f0, x.f1)) (fun (x : Int × Int) => (⟨x.1, x.2⟩ : S43)) (fun _ => rfl)
/-- The pure statement of batonlaw04_HistParts. -/
def Pure : Prop := ∀ (l0 : List (S26)) (l1 : List (S38)) (x2 : S43), (l0.length ≤ maxLen ∧ ∀ y_l0 ∈ l0, G26 y_l0) → (l1.length ≤ maxLen ∧ ∀ y_l1 ∈ l1, G38 y_l1) → (G43 x2) → ∃ k, batonlaw04_HistParts.f k l0 l1 x2.f0 x2.f1 = some true
end Go.Proofs.Ytldblgcbmhkmaaa.PM.GHistParts
