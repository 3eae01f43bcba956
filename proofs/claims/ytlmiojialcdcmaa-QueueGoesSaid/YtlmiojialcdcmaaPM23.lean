import Derived.Test.YtlmiojialcdcmaaPM0
import Derived.Test.YtlmiojialcdcmaaPM22
namespace Go.Proofs.Ytlmiojialcdcmaa.PM
open Go.RowKit Go.Proofs.YtlmiojialcdcmaaW.PrintWords Go.Proofs.YtlmiojialcdcmaaW.PrintLast Go.Proofs.YtlmiojialcdcmaaW.PrintMore
attribute [local go_sem] max2_int min2_int max_two min_two max_three min_three max_four min_four
attribute [local go_sem high] Go.Proofs.Ytlmiojialcdcmaa.My.str_leq Go.Proofs.Ytlmiojialcdcmaa.My.str_gtr Go.Proofs.Ytlmiojialcdcmaa.My.str_geq
set_option linter.unusedVariables false
set_option linter.unusedSimpArgs false

/-! ### slices_ContainsFunc_32: an instance of function 31 -/
-- (by hand)
def slices_ContainsFunc_32.f (l0:List S65) (_:Unit):Option Bool:=My.anyM slices_IndexFunc_32.p l0
set_option maxHeartbeats 1000000 in
theorem slices_ContainsFunc_32.calls (A0:Option Addr) (c0:Nat) (l0:List S65) (a1:Unit) (r:Bool) (w:World) (hr0:Kd.C k65 w A0 l0.length l0) (hc0:l0.length≤c0) (h:slices_ContainsFunc_32.f l0 a1=some r):
    Calls Try.prog 31 #[.slice A0 l0.length c0,.func (.func 32) #[] #[]] w fun e w'=> e= .returned (.bool r)∧Below w.heap.size w w':=by
  obtain⟨i,hi,hd⟩:=My.any_idx (i:=0) (Int.le_refl 0) h
  have H:=Aside0.mk (show slices_IndexFunc_32.f l0 ()=some i from hi)
  have HD:=Aside0.mk hd
  have HR0:=Aside0.mk (And.intro hr0 hc0)
  clear hr0 hc0 h hi hd
  go_enter Try.func31,Try.ntmps31
  go_wp2_with (go_at_call 47;(with_reducible refine(slices_IndexFunc_32.calls _ _ l0 () i _ HR0.out.1 HR0.out.2 H.out).mono ?_);rintro e w2 ⟨rfl,hb2⟩;have HB2:=Aside0.mk hb2;clear hb2)
  go_ret
  exact⟨by rw [←HD.out];rfl,HB2.out⟩


end Go.Proofs.Ytlmiojialcdcmaa.PM
