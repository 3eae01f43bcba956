/- QueueGoes holds for every input: the law, called with whatever reads as data, returns true, and each argument reads behind the call as it read before. Conditions: none beyond the given row's. -/
import Derived.Test.YtlmiojialcdcmaaRows
import Derived.Test.YtlmiojialcdcmaaSaidQueueGoes
import Derived.Test.YtlmiojialcdcmaaPureQueueGoes
import Derived.WalkKit
import Derived.ProofKit
import Derived.OpenShut
import Derived.ShutString
import Derived.ChangeOld
import Derived.Below
import Derived.Carry
namespace Go.Proofs.Ytlmiojialcdcmaa.PM.GQueueGoes
open Go.ChangeShapes Go.WideShapes Go.ChangeAt Go.RowKit Go.Proofs.YtlmiojialcdcmaaW.PrintWords Go.Proofs.Ytlmiojialcdcmaa.Opens Go.Proofs.Ytlmiojialcdcmaa.PM
open Go.ChangeMaps (open_string shut_string)
set_option linter.unusedVariables false
theorem own : ownKnob Try.prog.godebug = none := by kernel_rfl
theorem laidOut : laidOutB Try.prog = true := by kernel_rfl
set_option maxRecDepth 100000 in
set_option maxHeartbeats 1000000 in
theorem lifted (os : Os) (started : os.Started) (H : Type) (enc : TypeId × Value → H) :
    ReturnsInHanded {} Try.checked os 4 .any (Rows.queueGoesSpec.pre6 enc Try.prog Try.f4 Rows.queueGoesRow.domain false) (Rows.queueGoesSpec.post enc Try.prog Try.f4 false true false false) := by
  refine returnsInHanded_of_change (C := Try.checked) own started (by kernel_rfl) Try.func4
    (ChangeSpec.witness6 (enc := enc) (C := Try.checked) false ⟨#[], #[.agg #[.int .i64 0, .string ByteArray.empty, .int .i64 0, .string ByteArray.empty, .string ByteArray.empty, .int .i64 0, .int .i64 0, .int .i64 0, .int .i64 0, .int .i64 0], .agg #[.int .i64 0, .int .i64 0, .int .i64 0, .int .i64 0, .int .i64 0, .int .i64 0, .bool false, .slice none 0 0, .slice none 0 0]], []⟩ 8 (by kernel_rfl) (by kernel_rfl) (by kernel_rfl) (by kernel_rfl)) ?_
  intro W base args ds gs before hval0 hW hcnd _
  have hval : ∀ (j : Nat) t v, Try.f4.params[j]? = some t → args[j]? = some v → Value.okWide Try.prog W .any base t v := hval0
  have hW' := hW
  obtain ⟨p, q, hA0, hV, rfl, hfz, hnd⟩ := hW
  have hA : DataW.TrodAll enc Try.prog W 0 (fun _ => true) true Try.f4.params.toList args.toList ds p := hA0
  rw [Try.params4] at hA hval
  obtain ⟨v0, vs0, d0, ds0, p0, q0, hargs, rfl, rfl, h0, r0⟩ := trodAll_cons hA
  obtain ⟨v1, vs1, d1, ds1, p1, q1, rfl, rfl, rfl, h1, r1⟩ := trodAll_cons r0
  obtain ⟨rfl, rfl, rfl⟩ := trodAll_nil r1
  obtain rfl : args = #[v0, v1] := by cases args; simp_all
  obtain ⟨rfl, rfl⟩ := trodVars_none hV
  obtain ⟨cs0, rfl⟩ := okWide_line line24 (hval 0 24 v0 rfl rfl)
  have k0 := h0
  have lt0 : ∀ x ∈ p0, x.block < W.heap.size := by obtain ⟨m, hm⟩ := k0; exact DataW.trod_lt m _ _ _ hm
  obtain ⟨x0, K0, g0⟩ : ∃ y, k24.K W y cs0.toList ∧ G24 y := by
    obtain ⟨fuel, hf⟩ := h0
    exact opens24 enc W 0 _ true fuel _ _ hf
  have e0 := k24_open K0
  obtain ⟨csl0⟩ := cs0
  change csl0 = _ at e0
  subst e0
  obtain ⟨cs1, rfl⟩ := okWide_line line43 (hval 1 43 v1 rfl rfl)
  have k1 := h1
  have lt1 : ∀ x ∈ p1, x.block < W.heap.size := by obtain ⟨m, hm⟩ := k1; exact DataW.trod_lt m _ _ _ hm
  obtain ⟨x1, K1, g1⟩ : ∃ y, k43.K W y cs1.toList ∧ G43 y := by
    obtain ⟨fuel, hf⟩ := h1
    exact opens43 enc W 0 _ true fuel _ _ hf
  obtain ⟨A1_7, c1_7, A1_8, c1_8, e1, hc1_7, hr1_7, hc1_8, hr1_8⟩ := k43_open K1
  obtain ⟨csl1⟩ := cs1
  change csl1 = _ at e1
  subst e1
  clear hA0 hval0
  obtain ⟨k, hk⟩ := pure_holds x0 x1 g0 g1
  refine (batonlaw19_QueueGoes.calls k x0.f0 x0.f1 x0.f2 x0.f3 x0.f4 x0.f5 x0.f6 x0.f7 x0.f8 x0.f9 x1.f0 x1.f1 x1.f2 x1.f3 x1.f4 x1.f5 x1.f6 _ _ x1.f7 _ _ x1.f8 true W hr1_7 hc1_7 hr1_8 hc1_8 hk).mono ?_
  rintro e W' ⟨rfl, bel0⟩
  have bel : Below W.heap.size W W' := bel0
  exact ⟨_, rfl, _, _, _, [], _, [], hW', trodAll_mk1 (shut_bool Try.underlying4 _), (trodAll_cons_mk (Below.trod laidOut (by kernel_rfl) (of_decide_eq_true (by kernel_rfl)) k0 bel lt0) (trodAll_cons_mk (Below.trod laidOut (by kernel_rfl) (of_decide_eq_true (by kernel_rfl)) k1 bel lt1) trodAll_mk0)), rfl, bel.frame _, fun h => by cases h⟩
theorem over : Rows.queueGoesRow.holds Try.pinned (OpenSpec.ofChange Rows.queueGoesSpec) :=
  OpenClaim.holds_of_wide 4 Try.f4 rfl rfl rfl rfl rfl rfl rfl ⟨rfl, rfl, rfl, rfl, rfl⟩ rfl rfl rfl rfl rfl (by kernel_rfl) Try.func4 (by kernel_rfl)
    (of_decide_eq_true (by kernel_rfl)) (by unfold Func.isWrapper; first | (rw [if_pos (by decide +kernel)]; kernel_rfl) | (rw [if_neg (by decide +kernel)]; exact ⟨rfl, rfl⟩))
    (fun os started H enc _ => lifted os started H enc)
theorem proved : Rows.QueueGoesSaid := over
#print axioms proved
end Go.Proofs.Ytlmiojialcdcmaa.PM.GQueueGoes
namespace Go.Proofs.Ytlmiojialcdcmaa
/-- The row, under a short name, for the claim. -/
theorem queueGoes_holds : Rows.QueueGoesSaid := PM.GQueueGoes.proved
end Go.Proofs.Ytlmiojialcdcmaa
