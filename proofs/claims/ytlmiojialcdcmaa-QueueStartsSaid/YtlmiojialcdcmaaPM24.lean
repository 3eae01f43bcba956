-- made by a program of this session (wip/tools/myprint.py over the kit's print) out of the translation; Lean checks it
import Derived.Test.YtlmiojialcdcmaaToldD
import Derived.Test.YtlmiojialcdcmaaToldA
import Derived.Test.YtlmiojialcdcmaaToldB
import Derived.Test.YtlmiojialcdcmaaToldC
namespace Go.Proofs.Ytlmiojialcdcmaa.PM
open Go.RowKit Go.Proofs.YtlmiojialcdcmaaW.PrintWords Go.Proofs.YtlmiojialcdcmaaW.PrintLast Go.Proofs.YtlmiojialcdcmaaW.PrintMore
attribute [local go_sem] max2_int min2_int max_two min_two max_three min_three max_four min_four   -- for this text's walks alone
attribute [local go_sem high] Go.Proofs.Ytlmiojialcdcmaa.My.str_leq Go.Proofs.Ytlmiojialcdcmaa.My.str_gtr Go.Proofs.Ytlmiojialcdcmaa.My.str_geq
set_option linter.unusedVariables false
set_option linter.unusedSimpArgs false

/-! ### queue_Told: function 16 -/
set_option maxHeartbeats 80000000 in
set_option maxRecDepth 100000 in
theorem queue_Told.calls (a0_0 : Int) (a0_1 : ByteArray) (a0_2 : Int) (a0_3 : ByteArray) (a0_4 : ByteArray) (a0_5 : Int) (a0_6 : Int) (a0_7 : Int) (a0_8 : Int) (a0_9 : Int) (a1_0 : Int) (a1_1 : Int) (a1_2 : Int) (a1_3 : Int) (a1_4 : Int) (a1_5 : Int) (a1_6 : Bool) (A1_7 : Option Addr) (c1_7 : Nat) (l1_7 : List (S49)) (A1_8 : Option Addr) (c1_8 : Nat) (l1_8 : List (S65)) (r1 : Int) (r2 : ByteArray) (r3 : Int) (r4 : ByteArray) (r5 : ByteArray) (r6 : Int) (r7 : Int) (r8 : Int) (r9 : Int) (r10 : Int) (w : World) (hr1_7 : Kd.C k49 w A1_7 l1_7.length l1_7) (hc1_7 : l1_7.length ≤ c1_7) (hr1_8 : Kd.C k65 w A1_8 l1_8.length l1_8) (hc1_8 : l1_8.length ≤ c1_8) (h : queue_Told.f a0_0 a0_1 a0_2 a0_3 a0_4 a0_5 a0_6 a0_7 a0_8 a0_9 a1_0 a1_1 a1_2 a1_3 a1_4 a1_5 a1_6 l1_7 l1_8 = some (r1, r2, r3, r4, r5, r6, r7, r8, r9, r10)) :
  Calls Try.prog 16 #[.agg #[.int .i64 a0_0, .string a0_1, .int .i64 a0_2, .string a0_3, .string a0_4, .int .i64 a0_5, .int .i64 a0_6, .int .i64 a0_7, .int .i64 a0_8, .int .i64 a0_9], .agg #[.int .i64 a1_0, .int .i64 a1_1, .int .i64 a1_2, .int .i64 a1_3, .int .i64 a1_4, .int .i64 a1_5, .bool a1_6, .slice A1_7 l1_7.length c1_7, .slice A1_8 l1_8.length c1_8]] w fun e w' => e = .returned (.agg #[.int .i64 r1, .string r2, .int .i64 r3, .string r4, .string r5, .int .i64 r6, .int .i64 r7, .int .i64 r8, .int .i64 r9, .int .i64 r10]) ∧ Below w.heap.size w w' := by
 by_cases hp : a0_6 = 1
 · exact queue_Told.calls_p1 a0_0 a0_1 a0_2 a0_3 a0_4 a0_5 a0_6 a0_7 a0_8 a0_9 a1_0 a1_1 a1_2 a1_3 a1_4 a1_5 a1_6 A1_7 c1_7 l1_7 A1_8 c1_8 l1_8 r1 r2 r3 r4 r5 r6 r7 r8 r9 r10 w hr1_7 hc1_7 hr1_8 hc1_8 ⟨hp⟩ h
 by_cases hq : a0_6 = 2
 · exact queue_Told.calls_p2 a0_0 a0_1 a0_2 a0_3 a0_4 a0_5 a0_6 a0_7 a0_8 a0_9 a1_0 a1_1 a1_2 a1_3 a1_4 a1_5 a1_6 A1_7 c1_7 l1_7 A1_8 c1_8 l1_8 r1 r2 r3 r4 r5 r6 r7 r8 r9 r10 w hr1_7 hc1_7 hr1_8 hc1_8 ⟨hq⟩ h
 by_cases hs : a0_6 = 10
 · exact queue_Told.calls_p3 a0_0 a0_1 a0_2 a0_3 a0_4 a0_5 a0_6 a0_7 a0_8 a0_9 a1_0 a1_1 a1_2 a1_3 a1_4 a1_5 a1_6 A1_7 c1_7 l1_7 A1_8 c1_8 l1_8 r1 r2 r3 r4 r5 r6 r7 r8 r9 r10 w hr1_7 hc1_7 hr1_8 hc1_8 ⟨hs⟩ h
 exfalso
 have H := h
 clear h
 unfold queue_Told.f at H
 replace H := Option.bind_eq_some_iff.mp H
 obtain ⟨bt, A, H⟩ := H
 split at H
 · split at H
   · exact absurd H (by simp [hp, hq, hs])
   · exact absurd H (by simp)
 · exact absurd H (by simp)

end Go.Proofs.Ytlmiojialcdcmaa.PM
