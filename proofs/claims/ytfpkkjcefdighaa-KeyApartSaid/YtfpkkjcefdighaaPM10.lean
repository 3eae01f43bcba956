-- made by a program of this session (wip/tools/myprint.py over the kit's print) out of the translation; Lean checks it
import Derived.Test.YtfpkkjcefdighaaPM0
namespace Go.Proofs.Ytfpkkjcefdighaa.PM
open Go.RowKit Go.Proofs.YtfpkkjcefdighaaW.PrintWords Go.Proofs.YtfpkkjcefdighaaW.PrintLast Go.Proofs.YtfpkkjcefdighaaW.PrintMore
attribute [local go_sem] max2_int min2_int max_two min_two max_three min_three max_four min_four   -- for this text's walks alone
attribute [local go_sem high] Go.Proofs.Ytfpkkjcefdighaa.My.str_leq Go.Proofs.Ytfpkkjcefdighaa.My.str_gtr Go.Proofs.Ytfpkkjcefdighaa.My.str_geq
set_option linter.unusedVariables false
set_option linter.unusedSimpArgs false

/-! ### stringslite_IndexByte: function 32 -/
-- (by hand)
def stringslite_IndexByte.f (a0 : ByteArray) (a1 : Int) : Option Int := some (firstIdx a0 a1.toNat.toUInt8)
set_option maxHeartbeats 1000000 in
theorem stringslite_IndexByte.calls (a0 : ByteArray) (a1 : Int) (r : Int) (w : World) (h : stringslite_IndexByte.f a0 a1 = some r) :
    Calls Try.prog 32 #[.string a0, .int .u8 a1] w fun e w' => e = .returned (.int .i64 r) ∧ Below w.heap.size w w' := by
  obtain rfl := Option.some.inj h
  have hx : ∀ (s : ByteArray) (c : Int) (W : World), (callFunc 34 #[.string s, .int .u8 c]).run Try.prog W = .ok (.value (.int .i64 (firstIdx s c.toNat.toUInt8))) W := by
    intro s c W
    rw [run_callFunc_extern (e := Extern.BytealgIndexByte.indexByte) Try.func34 (by kernel_rfl) (by kernel_rfl) (by kernel_rfl) (by kernel_rfl), run_indexByte_string]
    rfl
  clear h
  go_enter Try.func32, Try.ntmps32
  go_wp2
  go_ret
  exact ⟨rfl, Below.refl _ _⟩


end Go.Proofs.Ytfpkkjcefdighaa.PM
