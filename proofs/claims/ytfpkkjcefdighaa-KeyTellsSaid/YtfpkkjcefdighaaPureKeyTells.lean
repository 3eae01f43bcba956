/- KeyTells: the pure statement, out of the plain laws of keys. -/
import Derived.Test.YtfpkkjcefdighaaSaidKeyTells
import Derived.Test.YtfpkkjcefdighaaKey
namespace Go.Proofs.Ytfpkkjcefdighaa.PM.GKeyTells
open Go.RowKit Go.Proofs.YtfpkkjcefdighaaW.PrintWords Go.Proofs.YtfpkkjcefdighaaW.PrintLast Go.Proofs.YtfpkkjcefdighaaW.PrintMore Go.Proofs.Ytfpkkjcefdighaa.PM Go.Proofs.Ytfpkkjcefdighaa.My
set_option linter.unusedVariables false
theorem pure_holds : Pure := by
  intro s a b _ _ _
  refine Ev.rounds (g := fun k => batonlaw02_KeyTells.f k s a b) ?_
  unfold batonlaw02_KeyTells.f
  by_cases h : (s.size : Int) > 100
  · exact ev_if h (ev_c Key.live (ev_now rfl))
  have hs : s.size ≤ 100 := by omega
  refine ev_ifn h (ev_c (Key.prf_f a hs) (ev_b (Key.prf_ref a hs) (ev_c (Key.tkt_f a b hs) (ev_b (Key.tkt_ref a b hs) (ev_c (Key.flg_f hs) (ev_b (Key.flg_ref hs) (ev_c (Key.chk_f s) (ev_b (Key.chk_ref (by omega)) ?_))))))))
  refine ev_if (by simp) (ev_c (Key.nam_f s) (ev_b (Key.nam_ref hs) ?_))
  exact ev_if (by simp) (ev_if rfl (ev_if (by simp) (ev_if rfl (ev_if (by simp) (ev_if rfl (ev_if (by simp) (ev_c Key.live (ev_now rfl))))))))
end Go.Proofs.Ytfpkkjcefdighaa.PM.GKeyTells
