/- KeyReads: the pure statement, out of the plain laws of keys. -/
import Derived.Test.YtfpkkjcefdighaaSaidKeyReads
import Derived.Test.YtfpkkjcefdighaaKey
namespace Go.Proofs.Ytfpkkjcefdighaa.PM.GKeyReads
open Go.RowKit Go.Proofs.YtfpkkjcefdighaaW.PrintWords Go.Proofs.YtfpkkjcefdighaaW.PrintLast Go.Proofs.YtfpkkjcefdighaaW.PrintMore Go.Proofs.Ytfpkkjcefdighaa.PM Go.Proofs.Ytfpkkjcefdighaa.My
set_option linter.unusedVariables false
theorem pure_holds : Pure := by
  intro p s _ _
  refine Ev.rounds (g := fun k => batonlaw02_KeyReads.f k p s) ?_
  unfold batonlaw02_KeyReads.f
  by_cases h : (p.size : Int) > 100
  · exact ev_if h (Ev.step (fun k => by apply batonlaw02_KeyReads.j0.eq_2) (ev_if rfl (ev_c Key.live (ev_now rfl))))
  refine ev_ifn h (Ev.step (fun k => by apply batonlaw02_KeyReads.j0.eq_2) ?_)
  by_cases h2 : (s.size : Int) > 100
  · exact ev_if (by simpa using h2) (ev_c Key.live (ev_now rfl))
  refine ev_ifn (by simpa using h2) (ev_c (Key.id_f p s) (ev_b (Key.id_ref p (by omega)) (ev_if rfl (ev_if (by simp) (ev_c (Key.und_f p s) (ev_c (Key.und_ref p s) (ev_if (by simp) (ev_c Key.live (ev_now rfl)))))))))
end Go.Proofs.Ytfpkkjcefdighaa.PM.GKeyReads
