-- made by a program of this session (wip/tools/myprint.py over the kit's print) out of the translation; Lean checks it
import Derived.Test.YtdehdhkhcilckaaPM0
import Derived.Test.YtdehdhkhcilckaaPM15
namespace Go.Proofs.Ytdehdhkhcilckaa.PM
open Go.RowKit Go.Proofs.YtdehdhkhcilckaaW.PrintWords Go.Proofs.YtdehdhkhcilckaaW.PrintLast Go.Proofs.YtdehdhkhcilckaaW.PrintMore
attribute [local go_sem] max2_int min2_int max_two min_two max_three min_three max_four min_four   -- for this text's walks alone
attribute [local go_sem high] Go.Proofs.Ytdehdhkhcilckaa.My.str_leq Go.Proofs.Ytdehdhkhcilckaa.My.str_gtr Go.Proofs.Ytdehdhkhcilckaa.My.str_geq
set_option linter.unusedVariables false
set_option linter.unusedSimpArgs false

/-! ### slices_ContainsFunc_55: an instance of function 53 -/
-- (by hand)
def slices_ContainsFunc_55.f (l0 : List S50) (_ : Unit) : Option Bool := My.anyM slices_IndexFunc_55.p l0
set_option maxHeartbeats 1000000 in
theorem slices_ContainsFunc_55.calls (A0 : Option Addr) (c0 : Nat) (l0 : List S50) (a1 : Unit) (r : Bool) (w : World) (hr0 : Kd.C k50 w A0 l0.length l0) (hc0 : l0.length ≤ c0) (h : slices_ContainsFunc_55.f l0 a1 = some r) :
    Calls Try.prog 53 #[.slice A0 l0.length c0, .func (.func 55) #[] #[]] w fun e w' => e = .returned (.bool r) ∧ Below w.heap.size w w' := by
  obtain ⟨i, hi, hd⟩ := My.any_idx (i := 0) (Int.le_refl 0) h
  have H := Aside0.mk (show slices_IndexFunc_55.f l0 () = some i from hi)
  have HD := Aside0.mk hd
  have HR0 := Aside0.mk (And.intro hr0 hc0)
  clear hr0 hc0 h hi hd
  go_enter Try.func53, Try.ntmps53
  go_wp2_with (go_at_call 62; (with_reducible refine (slices_IndexFunc_55.calls _ _ l0 () i _ HR0.out.1 HR0.out.2 H.out).mono ?_); rintro e w2 ⟨rfl, hb2⟩; have HB2 := Aside0.mk hb2; clear hb2)
  go_ret
  exact ⟨by rw [← HD.out]; rfl, HB2.out⟩


end Go.Proofs.Ytdehdhkhcilckaa.PM
