-- made by a program of this session (wip/tools/myprint.py over the kit's print) out of the translation; Lean checks it
import Derived.Test.YtlmiojialcdcmaaPM0
import Derived.Test.YtlmiojialcdcmaaPM10
import Derived.Test.YtlmiojialcdcmaaPM12
import Derived.Test.YtlmiojialcdcmaaPM20
import Derived.Test.YtlmiojialcdcmaaPM23
namespace Go.Proofs.Ytlmiojialcdcmaa.PM
open Go.RowKit Go.Proofs.YtlmiojialcdcmaaW.PrintWords Go.Proofs.YtlmiojialcdcmaaW.PrintLast Go.Proofs.YtlmiojialcdcmaaW.PrintMore
attribute [local go_sem] max2_int min2_int max_two min_two max_three min_three max_four min_four   -- for this text's walks alone
attribute [local go_sem high] Go.Proofs.Ytlmiojialcdcmaa.My.str_leq Go.Proofs.Ytlmiojialcdcmaa.My.str_gtr Go.Proofs.Ytlmiojialcdcmaa.My.str_geq
set_option linter.unusedVariables false
set_option linter.unusedSimpArgs false

/-! ### queue_Told: function 16 -/
def queue_Told.f (a0_0 : Int) (a0_1 : ByteArray) (a0_2 : Int) (a0_3 : ByteArray) (a0_4 : ByteArray) (a0_5 : Int) (a0_6 : Int) (a0_7 : Int) (a0_8 : Int) (a0_9 : Int) (a1_0 : Int) (a1_1 : Int) (a1_2 : Int) (a1_3 : Int) (a1_4 : Int) (a1_5 : Int) (a1_6 : Bool) (l1_7 : List (S49)) (l1_8 : List (S65)) : Option (Int × ByteArray × Int × ByteArray × ByteArray × Int × Int × Int × Int × Int) := (queue_Ask.f a0_0 a0_1 a0_2 a0_3 a0_4 a0_5 a0_6 a0_7 a0_8 a0_9).bind fun bt206 => (if bt206.2.2.2.2.2.2.2.2.2.2.2.2.2 = true then (if a1_0 = 0 then (if a0_6 = 1 then (if a1_6 = true then (some (a0_0, a0_1, a0_2, a0_3, a0_4, a0_5, 7, a1_3, a0_8, a0_9)) else ((queue_fail.f a0_0 a0_1 a0_2 a0_3 a0_4 a0_5 a0_6 a0_7 a0_8 a0_9 11).bind fun bt247 => (some (bt247.1, bt247.2.1, bt247.2.2.1, bt247.2.2.2.1, bt247.2.2.2.2.1, bt247.2.2.2.2.2.1, bt247.2.2.2.2.2.2.1, bt247.2.2.2.2.2.2.2.1, bt247.2.2.2.2.2.2.2.2.1, bt247.2.2.2.2.2.2.2.2.2)))) else (if a0_6 = 2 then (if (l1_7.length : Int) = 0 then (some (a0_0, a0_1, a0_2, a0_3, a0_4, a0_5, 3, a0_7, wrap64 (a1_3 + 1), a0_9)) else ((ticket_Order.f l1_7).bind fun t257 => (if 0 < (t257.length : Int) then (some (a0_0, a0_1, a0_2, (rd_T49 t257 0).f1, (rd_T49 t257 0).f0, a0_5, 10, (rd_T49 t257 0).f2, a0_8, a0_9)) else (none)))) else (if a0_6 = 3 then (none) else (if a0_6 = 10 then (if a1_6 = true then (some (a0_0, a0_1, a0_2, a0_3, a0_4, a0_5, 7, a0_7, a0_8, a0_9)) else (some (a0_0, a0_1, a0_2, (⟨#[]⟩ : ByteArray), (⟨#[]⟩ : ByteArray), a0_5, 2, 0, a0_8, a0_9))) else (none))))) else (none)) else (none))
def queue_Told.T18 : Bool × List (List Nat × List Nat) := (true, [([], []), ([0], [0]), ([], []), ([2], [2]), ([], []), ([4], [4]), ([], []), ([6], [6]), ([0, 1, 6, 7], []), ([8, 1, 7, 0, 1, 6, 7], [1, 8]), ([0, 1, 2, 3, 6, 7, 8, 9], []), ([10, 3, 9, 0, 1, 2, 3, 6, 7, 8, 9], [3, 10]), ([0, 1, 2, 3, 4, 5, 6, 7, 8, 9, 10, 11], []), ([12, 5, 11, 0, 1, 2, 3, 4, 5, 6, 7, 8, 9, 10, 11], [5, 12])])
def queue_Told.B18 : List Nat := [0, 1, 0, 4, 0, 16, 0, 64, 195, 451, 975, 1999, 4095, 8191]
theorem queue_Told.tab18 : rtab .any (opsOf Try.f16 18) = queue_Told.T18 := by kernel_rfl
theorem queue_Told.bits18 : waitsOk queue_Told.T18.2 queue_Told.B18 = true := by kernel_rfl
end Go.Proofs.Ytlmiojialcdcmaa.PM
