/- ElectSays holds for every input: the law, called with whatever reads as data, returns true, and each argument reads behind the call as it read before. Conditions: none beyond the given row's. -/
import Derived.Test.YtaebmmjhokjdbaaRows
import Derived.Test.YtaebmmjhokjdbaaSaidElectSays
import Derived.Test.YtaebmmjhokjdbaaPureElectSays
import Derived.WalkKit
import Derived.ProofKit
import Derived.OpenShut
import Derived.ShutString
import Derived.ChangeOld
import Derived.Below
import Derived.Carry
namespace Go.Proofs.Ytaebmmjhokjdbaa.PM.GElectSays
open Go.ChangeShapes Go.WideShapes Go.ChangeAt Go.RowKit Go.Proofs.YtaebmmjhokjdbaaW.PrintWords Go.Proofs.Ytaebmmjhokjdbaa.Opens Go.Proofs.Ytaebmmjhokjdbaa.PM
open Go.ChangeMaps (open_string shut_string)
set_option linter.unusedVariables false
theorem own : ownKnob Try.prog.godebug = none := by kernel_rfl
theorem laidOut : laidOutB Try.prog = true := by kernel_rfl
set_option maxRecDepth 100000 in
set_option maxHeartbeats 1000000 in
theorem lifted (os : Os) (started : os.Started) (H : Type) (enc : TypeId × Value → H) :
    ReturnsInHanded {} Try.checked os 8 .any (Rows.electSaysSpec.pre6 enc Try.prog Try.f8 Rows.electSaysRow.domain false) (Rows.electSaysSpec.post enc Try.prog Try.f8 false true false false) := by
  refine returnsInHanded_of_change (C := Try.checked) own started (by kernel_rfl) Try.func8
    (ChangeSpec.witness6 (enc := enc) (C := Try.checked) false ⟨#[], #[.slice none 0 0, .string ByteArray.empty, .int .i64 0], []⟩ 8 (by kernel_rfl) (by kernel_rfl) (by kernel_rfl) (by kernel_rfl)) ?_
  intro W base args ds gs before hval0 hW hcnd _
  have hval : ∀ (j : Nat) t v, Try.f8.params[j]? = some t → args[j]? = some v → Value.okWide Try.prog W .any base t v := hval0
  have hW' := hW
  obtain ⟨p, q, hA0, hV, rfl, hfz, hnd⟩ := hW
  have hA : DataW.TrodAll enc Try.prog W 0 (fun _ => true) true Try.f8.params.toList args.toList ds p := hA0
  rw [Try.params8] at hA hval
  obtain ⟨v0, vs0, d0, ds0, p0, q0, hargs, rfl, rfl, h0, r0⟩ := trodAll_cons hA
  obtain ⟨v1, vs1, d1, ds1, p1, q1, rfl, rfl, rfl, h1, r1⟩ := trodAll_cons r0
  obtain ⟨v2, vs2, d2, ds2, p2, q2, rfl, rfl, rfl, h2, r2⟩ := trodAll_cons r1
  obtain ⟨rfl, rfl, rfl⟩ := trodAll_nil r2
  obtain rfl : args = #[v0, v1, v2] := by cases args; simp_all
  obtain ⟨rfl, rfl⟩ := trodVars_none hV
  obtain ⟨b0, len0, cap0, rfl⟩ := okWide_slice Try.underlying22 (hval 0 22 v0 rfl rfl)
  have k0 := h0
  have lt0 : ∀ x ∈ p0, x.block < W.heap.size := by obtain ⟨m, hm⟩ := k0; exact DataW.trod_lt m _ _ _ hm
  obtain ⟨l0, K0, g0⟩ : ∃ y, (Kd.slice 26 k26).K W y [.slice b0 len0 cap0] ∧ (y.length ≤ maxLen ∧ ∀ y_y ∈ y, G26 y_y) := by
    obtain ⟨fuel, hf⟩ := h0
    exact (Opens.slice (by kernel_rfl) (by kernel_rfl) opens26) enc W 0 _ true fuel [.slice b0 len0 cap0] _ hf
  obtain ⟨A0, c0, e0, hc0, hr0⟩ := K0
  injection e0 with e0 _
  injection e0 with ea0 eb0 ec0
  subst ea0 eb0 ec0
  obtain ⟨a1, rfl, rfl, rfl, y1⟩ := open_string Try.underlying9 (hval 1 9 v1 rfl rfl) h1
  obtain ⟨a2, rfl, rfl, rfl, w2⟩ := open_int Try.underlying3 (hval 2 3 v2 rfl rfl) h2
  clear hA0 hval0
  obtain ⟨k, hk⟩ := pure_holds l0 a1 a2 g0 y1 w2
  refine (batonlaw17_ElectSays.calls k _ _ l0 a1 a2 true W hr0 hc0 hk).mono ?_
  rintro e W' ⟨rfl, bel0⟩
  have bel : Below W.heap.size W W' := bel0
  exact ⟨_, rfl, _, _, _, [], _, [], hW', trodAll_mk1 (shut_bool Try.underlying4 _), (trodAll_cons_mk (Below.trod laidOut (by kernel_rfl) (of_decide_eq_true (by kernel_rfl)) k0 bel lt0) (trodAll_cons_mk (shut_string Try.underlying9 y1) (trodAll_cons_mk (shut_int Try.underlying3 w2) trodAll_mk0))), rfl, bel.frame _, fun h => by cases h⟩
theorem over : Rows.electSaysRow.holds Try.pinned (OpenSpec.ofChange Rows.electSaysSpec) :=
  OpenClaim.holds_of_wide 8 Try.f8 rfl rfl rfl rfl rfl rfl rfl ⟨rfl, rfl, rfl, rfl, rfl⟩ rfl rfl rfl rfl rfl (by kernel_rfl) Try.func8 (by kernel_rfl)
    (of_decide_eq_true (by kernel_rfl)) (by unfold Func.isWrapper; first | (rw [if_pos (by decide +kernel)]; kernel_rfl) | (rw [if_neg (by decide +kernel)]; exact ⟨rfl, rfl⟩))
    (fun os started H enc _ => lifted os started H enc)
theorem proved : Rows.ElectSaysSaid := over
#print axioms proved
end Go.Proofs.Ytaebmmjhokjdbaa.PM.GElectSays
namespace Go.Proofs.Ytaebmmjhokjdbaa
/-- The row, under a short name, for the claim. -/
theorem electSays_holds : Rows.ElectSaysSaid := PM.GElectSays.proved
end Go.Proofs.Ytaebmmjhokjdbaa
