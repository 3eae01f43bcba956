/- KeyApart holds for every input: the law, called with whatever reads as data, returns true, and each argument reads behind the call as it read before. Conditions: none beyond the given row's. -/
import Derived.Test.YtfpkkjcefdighaaRows
import Derived.Test.YtfpkkjcefdighaaSaidKeyApart
import Derived.Test.YtfpkkjcefdighaaPureKeyApart
import Derived.WalkKit
import Derived.ProofKit
import Derived.OpenShut
import Derived.ShutString
import Derived.ChangeOld
import Derived.Below
import Derived.Carry
namespace Go.Proofs.Ytfpkkjcefdighaa.PM.GKeyApart
open Go.ChangeShapes Go.WideShapes Go.ChangeAt Go.RowKit Go.Proofs.YtfpkkjcefdighaaW.PrintWords Go.Proofs.Ytfpkkjcefdighaa.Opens Go.Proofs.Ytfpkkjcefdighaa.PM
open Go.ChangeMaps (open_string shut_string)
set_option linter.unusedVariables false
theorem own : ownKnob Try.prog.godebug = none := by kernel_rfl
theorem laidOut : laidOutB Try.prog = true := by kernel_rfl
set_option maxRecDepth 100000 in
set_option maxHeartbeats 1000000 in
theorem lifted (os : Os) (started : os.Started) (H : Type) (enc : TypeId × Value → H) :
    ReturnsInHanded {} Try.checked os 6 .any (Rows.keyApartSpec.pre6 enc Try.prog Try.f6 Rows.keyApartRow.domain false) (Rows.keyApartSpec.post enc Try.prog Try.f6 false true false false) := by
  refine returnsInHanded_of_change (C := Try.checked) own started (by kernel_rfl) Try.func6
    (ChangeSpec.witness6 (enc := enc) (C := Try.checked) false ⟨#[], #[.agg #[.int .i64 0, .int .i64 0], .agg #[.string ByteArray.empty, .string ByteArray.empty], .agg #[.int .i64 0, .int .i64 0]], []⟩ 8 (by kernel_rfl) (by kernel_rfl) (by kernel_rfl) (by kernel_rfl)) ?_
  intro W base args ds gs before hval0 hW hcnd _
  have hval : ∀ (j : Nat) t v, Try.f6.params[j]? = some t → args[j]? = some v → Value.okWide Try.prog W .any base t v := hval0
  have hW' := hW
  obtain ⟨p, q, hA0, hV, rfl, hfz, hnd⟩ := hW
  have hA : DataW.TrodAll enc Try.prog W 0 (fun _ => true) true Try.f6.params.toList args.toList ds p := hA0
  rw [Try.params6] at hA hval
  obtain ⟨v0, vs0, d0, ds0, p0, q0, hargs, rfl, rfl, h0, r0⟩ := trodAll_cons hA
  obtain ⟨v1, vs1, d1, ds1, p1, q1, rfl, rfl, rfl, h1, r1⟩ := trodAll_cons r0
  obtain ⟨v2, vs2, d2, ds2, p2, q2, rfl, rfl, rfl, h2, r2⟩ := trodAll_cons r1
  obtain ⟨rfl, rfl, rfl⟩ := trodAll_nil r2
  obtain rfl : args = #[v0, v1, v2] := by cases args; simp_all
  obtain ⟨rfl, rfl⟩ := trodVars_none hV
  obtain ⟨cs0, rfl⟩ := okWide_line line33 (hval 0 33 v0 rfl rfl)
  have k0 := h0
  have lt0 : ∀ x ∈ p0, x.block < W.heap.size := by obtain ⟨m, hm⟩ := k0; exact DataW.trod_lt m _ _ _ hm
  obtain ⟨x0, K0, g0⟩ : ∃ y, k33.K W y cs0.toList ∧ G33 y := by
    obtain ⟨fuel, hf⟩ := h0
    exact opens33 enc W 0 _ true fuel _ _ hf
  have e0 := k33_open K0
  obtain ⟨csl0⟩ := cs0
  change csl0 = _ at e0
  subst e0
  obtain ⟨cs1, rfl⟩ := okWide_line line34 (hval 1 34 v1 rfl rfl)
  have k1 := h1
  have lt1 : ∀ x ∈ p1, x.block < W.heap.size := by obtain ⟨m, hm⟩ := k1; exact DataW.trod_lt m _ _ _ hm
  obtain ⟨x1, K1, g1⟩ : ∃ y, k34.K W y cs1.toList ∧ G34 y := by
    obtain ⟨fuel, hf⟩ := h1
    exact opens34 enc W 0 _ true fuel _ _ hf
  have e1 := k34_open K1
  obtain ⟨csl1⟩ := cs1
  change csl1 = _ at e1
  subst e1
  obtain ⟨cs2, rfl⟩ := okWide_line line33 (hval 2 33 v2 rfl rfl)
  have k2 := h2
  have lt2 : ∀ x ∈ p2, x.block < W.heap.size := by obtain ⟨m, hm⟩ := k2; exact DataW.trod_lt m _ _ _ hm
  obtain ⟨x2, K2, g2⟩ : ∃ y, k33.K W y cs2.toList ∧ G33 y := by
    obtain ⟨fuel, hf⟩ := h2
    exact opens33 enc W 0 _ true fuel _ _ hf
  have e2 := k33_open K2
  obtain ⟨csl2⟩ := cs2
  change csl2 = _ at e2
  subst e2
  clear hA0 hval0
  obtain ⟨k, hk⟩ := pure_holds x0 x1 x2 g0 g1 g2
  refine (batonlaw02_KeyApart.calls k x0.f0 x0.f1 x1.f0 x1.f1 x2.f0 x2.f1 true W  hk).mono ?_
  rintro e W' ⟨rfl, bel0⟩
  have bel : Below W.heap.size W W' := bel0
  exact ⟨_, rfl, _, _, _, [], _, [], hW', trodAll_mk1 (shut_bool Try.underlying4 _), (trodAll_cons_mk (Below.trod laidOut (by kernel_rfl) (of_decide_eq_true (by kernel_rfl)) k0 bel lt0) (trodAll_cons_mk (Below.trod laidOut (by kernel_rfl) (of_decide_eq_true (by kernel_rfl)) k1 bel lt1) (trodAll_cons_mk (Below.trod laidOut (by kernel_rfl) (of_decide_eq_true (by kernel_rfl)) k2 bel lt2) trodAll_mk0))), rfl, bel.frame _, fun h => by cases h⟩
theorem over : Rows.keyApartRow.holds Try.pinned (OpenSpec.ofChange Rows.keyApartSpec) :=
  OpenClaim.holds_of_wide 6 Try.f6 rfl rfl rfl rfl rfl rfl rfl ⟨rfl, rfl, rfl, rfl, rfl⟩ rfl rfl rfl rfl rfl (by kernel_rfl) Try.func6 (by kernel_rfl)
    (of_decide_eq_true (by kernel_rfl)) (by unfold Func.isWrapper; first | (rw [if_pos (by decide +kernel)]; kernel_rfl) | (rw [if_neg (by decide +kernel)]; exact ⟨rfl, rfl⟩))
    (fun os started H enc _ => lifted os started H enc)
theorem proved : Rows.KeyApartSaid := over
#print axioms proved
end Go.Proofs.Ytfpkkjcefdighaa.PM.GKeyApart
namespace Go.Proofs.Ytfpkkjcefdighaa
/-- The row, under a short name, for the claim. -/
theorem keyApart_holds : Rows.KeyApartSaid := PM.GKeyApart.proved
end Go.Proofs.Ytfpkkjcefdighaa
