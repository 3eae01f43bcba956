-- made by a program of this session (wip/tools/myprint.py over the kit's print) out of the translation; Lean checks it
import Derived.Test.YtaebmmjhokjdbaaPM0
namespace Go.Proofs.Ytaebmmjhokjdbaa.PM
open Go.RowKit Go.Proofs.YtaebmmjhokjdbaaW.PrintWords Go.Proofs.YtaebmmjhokjdbaaW.PrintLast Go.Proofs.YtaebmmjhokjdbaaW.PrintMore
attribute [local go_sem] max2_int min2_int max_two min_two max_three min_three max_four min_four   -- for this text's walks alone
attribute [local go_sem high] Go.Proofs.Ytaebmmjhokjdbaa.My.str_leq Go.Proofs.Ytaebmmjhokjdbaa.My.str_gtr Go.Proofs.Ytaebmmjhokjdbaa.My.str_geq
set_option linter.unusedVariables false
set_option linter.unusedSimpArgs false

/-! ### bytealg_CompareString: function 68 -/
-- (by hand)
def bytealg_CompareString.f (a0 : ByteArray) (a1 : ByteArray) : Option Int := some (Lib.compareBytes a0.data.toList a1.data.toList)
set_option maxHeartbeats 1000000 in
theorem bytealg_CompareString.calls (a0 : ByteArray) (a1 : ByteArray) (r : Int) (w : World) (h : bytealg_CompareString.f a0 a1 = some r) :
    Calls Try.prog 68 #[.string a0, .string a1] w fun e w' => e = .returned (.int .i64 r) ∧ Below w.heap.size w w' := by
  obtain rfl := Option.some.inj h
  have hx : ∀ (a b : ByteArray) (W : World), (callFunc 74 #[.string a, .string b]).run Try.prog W = .ok (.value (.int .i64 (Lib.compareBytes a.data.toList b.data.toList))) W := by
    intro a b W
    rw [run_callFunc_extern (e := Extern.BytealgCompare.compare) Try.func74 (by kernel_rfl) (by kernel_rfl) (by kernel_rfl) (by kernel_rfl), Lib.run_compareString]
    rfl
  clear h
  go_enter Try.func68, Try.ntmps68
  go_wp2
  go_ret
  exact ⟨rfl, Below.refl _ _⟩


end Go.Proofs.Ytaebmmjhokjdbaa.PM
