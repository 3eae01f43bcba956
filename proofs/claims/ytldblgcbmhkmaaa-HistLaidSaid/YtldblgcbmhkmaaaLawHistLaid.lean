/- HistLaid holds for every input: the law, called with whatever reads as data, returns true, and each argument reads behind the call as it read before. Conditions: none beyond the given row's. -/
import Derived.Test.YtldblgcbmhkmaaaRows
import Derived.Test.YtldblgcbmhkmaaaSaidHistLaid
import Derived.Test.YtldblgcbmhkmaaaPureHistLaid
import Derived.WalkKit
import Derived.ProofKit
import Derived.OpenShut
import Derived.ShutString
import Derived.ChangeOld
import Derived.Below
import Derived.Carry
namespace Go.Proofs.Ytldblgcbmhkmaaa.PM.GHistLaid
open Go.ChangeShapes Go.WideShapes Go.ChangeAt Go.RowKit Go.Proofs.YtldblgcbmhkmaaaW.PrintWords Go.Proofs.Ytldblgcbmhkmaaa.Opens Go.Proofs.Ytldblgcbmhkmaaa.PM
open Go.ChangeMaps (open_string shut_string)
set_option linter.unusedVariables false
theorem own : ownKnob Try.prog.godebug = none := by kernel_rfl
theorem laidOut : laidOutB Try.prog = true := by kernel_rfl
set_option maxRecDepth 100000 in
set_option maxHeartbeats 1000000 in
theorem lifted (os : Os) (started : os.Started) (H : Type) (enc : TypeId × Value → H) :
    ReturnsInHanded {} Try.checked os 5 .any (Rows.histLaidSpec.pre6 enc Try.prog Try.f5 Rows.histLaidRow.domain false) (Rows.histLaidSpec.post enc Try.prog Try.f5 false true false false) := by
  refine returnsInHanded_of_change (C := Try.checked) own started (by kernel_rfl) Try.func5
    (ChangeSpec.witness6 (enc := enc) (C := Try.checked) false ⟨#[], #[.slice none 0 0, .agg #[.string ByteArray.empty, .string ByteArray.empty, .int .i64 0, .int .i64 0, .int .i64 0, .int .i64 0], .string ByteArray.empty], []⟩ 8 (by kernel_rfl) (by kernel_rfl) (by kernel_rfl) (by kernel_rfl)) ?_
  intro W base args ds gs before hval0 hW hcnd _
  have hval : ∀ (j : Nat) t v, Try.f5.params[j]? = some t → args[j]? = some v → Value.okWide Try.prog W .any base t v := hval0
  have hW' := hW
  obtain ⟨p, q, hA0, hV, rfl, hfz, hnd⟩ := hW
  have hA : DataW.TrodAll enc Try.prog W 0 (fun _ => true) true Try.f5.params.toList args.toList ds p := hA0
  rw [Try.params5] at hA hval
  obtain ⟨v0, vs0, d0, ds0, p0, q0, hargs, rfl, rfl, h0, r0⟩ := trodAll_cons hA
  obtain ⟨v1, vs1, d1, ds1, p1, q1, rfl, rfl, rfl, h1, r1⟩ := trodAll_cons r0
  obtain ⟨v2, vs2, d2, ds2, p2, q2, rfl, rfl, rfl, h2, r2⟩ := trodAll_cons r1
  obtain ⟨rfl, rfl, rfl⟩ := trodAll_nil r2
  obtain rfl : args = #[v0, v1, v2] := by cases args; simp_all
  obtain ⟨rfl, rfl⟩ := trodVars_none hV
  obtain ⟨b0, len0, cap0, rfl⟩ := okWide_slice Try.underlying22 (hval 0 22 v0 rfl rfl)
  have k0 := h0
  have lt0 : ∀ x ∈ p0, x.block < W.heap.size := by obtain ⟨m, hm⟩ := k0; exact DataW.trod_lt m _ _ _ hm
  obtain ⟨l0, K0, g0⟩ : ∃ y, (Kd.slice 26 k26).K W y [.slice b0 len0 cap0] ∧ (y.length ≤ maxLen ∧ ∀ y_y ∈ y, G26 y_y) := by
    obtain ⟨fuel, hf⟩ := h0
    exact (Opens.slice (by kernel_rfl) (by kernel_rfl) opens26) enc W 0 _ true fuel [.slice b0 len0 cap0] _ hf
  obtain ⟨A0, c0, e0, hc0, hr0⟩ := K0
  injection e0 with e0 _
  injection e0 with ea0 eb0 ec0
  subst ea0 eb0 ec0
  obtain ⟨cs1, rfl⟩ := okWide_line line26 (hval 1 26 v1 rfl rfl)
  have k1 := h1
  have lt1 : ∀ x ∈ p1, x.block < W.heap.size := by obtain ⟨m, hm⟩ := k1; exact DataW.trod_lt m _ _ _ hm
  obtain ⟨x1, K1, g1⟩ : ∃ y, k26.K W y cs1.toList ∧ G26 y := by
    obtain ⟨fuel, hf⟩ := h1
    exact opens26 enc W 0 _ true fuel _ _ hf
  have e1 := k26_open K1
  obtain ⟨csl1⟩ := cs1
  change csl1 = _ at e1
  subst e1
  obtain ⟨a2, rfl, rfl, rfl, y2⟩ := open_string Try.underlying9 (hval 2 9 v2 rfl rfl) h2
  clear hA0 hval0
  obtain ⟨k, hk⟩ := pure_holds l0 x1 a2 g0 g1 y2
  refine (batonlaw04_HistLaid.calls k _ _ l0 x1.f0 x1.f1 x1.f2 x1.f3 x1.f4 x1.f5 a2 true W hr0 hc0 hk).mono ?_
  rintro e W' ⟨rfl, bel0⟩
  have bel : Below W.heap.size W W' := bel0
  exact ⟨_, rfl, _, _, _, [], _, [], hW', trodAll_mk1 (shut_bool Try.underlying4 _), (trodAll_cons_mk (Below.trod laidOut (by kernel_rfl) (of_decide_eq_true (by kernel_rfl)) k0 bel lt0) (trodAll_cons_mk (Below.trod laidOut (by kernel_rfl) (of_decide_eq_true (by kernel_rfl)) k1 bel lt1) (trodAll_cons_mk (shut_string Try.underlying9 y2) trodAll_mk0))), rfl, bel.frame _, fun h => by cases h⟩
theorem over : Rows.histLaidRow.holds Try.pinned (OpenSpec.ofChange Rows.histLaidSpec) :=
  OpenClaim.holds_of_wide 5 Try.f5 rfl rfl rfl rfl rfl rfl rfl ⟨rfl, rfl, rfl, rfl, rfl⟩ rfl rfl rfl rfl rfl (by kernel_rfl) Try.func5 (by kernel_rfl)
    (of_decide_eq_true (by kernel_rfl)) (by unfold Func.isWrapper; first | (rw [if_pos (by decide +kernel)]; kernel_rfl) | (rw [if_neg (by decide +kernel)]; exact ⟨rfl, rfl⟩))
    (fun os started H enc _ => lifted os started H enc)
theorem proved : Rows.HistLaidSaid := over
#print axioms proved
end Go.Proofs.Ytldblgcbmhkmaaa.PM.GHistLaid
namespace Go.Proofs.Ytldblgcbmhkmaaa
/-- The row, under a short name, for the claim. -/
theorem histLaid_holds : Rows.HistLaidSaid := PM.GHistLaid.proved
end Go.Proofs.Ytldblgcbmhkmaaa
