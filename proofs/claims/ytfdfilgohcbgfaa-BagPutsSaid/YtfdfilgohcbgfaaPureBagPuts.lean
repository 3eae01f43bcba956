/- BagPuts: the pure statement, out of the plain laws of bags. -/
import Derived.Test.YtfdfilgohcbgfaaSaidBagPuts
import Derived.Test.YtfdfilgohcbgfaaBag
namespace Go.Proofs.Ytfdfilgohcbgfaa.PM.GBagPuts
open Go.RowKit Go.Proofs.YtfdfilgohcbgfaaW.PrintWords Go.Proofs.YtfdfilgohcbgfaaW.PrintLast Go.Proofs.YtfdfilgohcbgfaaW.PrintMore Go.Proofs.Ytfdfilgohcbgfaa.PM Go.Proofs.Ytfdfilgohcbgfaa.My
set_option linter.unusedVariables false
theorem pure_holds : Pure := by
  intro l m _ _
  refine Ev.rounds (g := fun k => batonlaw12_BagPuts.f k l m) ?_
  unfold batonlaw12_BagPuts.f
  refine ev_c (Bag.few_f l m) ?_
  by_cases h : l.length ≤ 40 ∧ m.length ≤ 40
  · refine ev_if (by simp; omega) ?_
    refine ev_c (Bag.put_f (by omega) (by omega)) (ev_b (Bag.put_ref (by omega) (by omega)) (ev_c (Bag.may_f _) (ev_b (Bag.may_ref (by omega)) (ev_if (by simp) ?_))))
    refine ev_b (Bag.same_f ?_) (ev_if rfl (ev_if rfl (ev_b Bag.live (Ev.now _))))
    unfold Bag.put
    split
    · simp; omega
    · split
      · simp; omega
      · simp; omega
  · refine ev_ifn (by simp; omega) (ev_b Bag.live (Ev.now _))
end Go.Proofs.Ytfdfilgohcbgfaa.PM.GBagPuts
