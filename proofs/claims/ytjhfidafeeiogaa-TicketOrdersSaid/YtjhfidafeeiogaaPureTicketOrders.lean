/- TicketOrders: the pure statement, out of the plain laws of tickets. -/
import Derived.Test.YtjhfidafeeiogaaSaidTicketOrders
import Derived.Test.YtjhfidafeeiogaaTicketRef
namespace Go.Proofs.Ytjhfidafeeiogaa.PM.GTicketOrders
open Go.RowKit Go.Proofs.YtjhfidafeeiogaaW.PrintWords Go.Proofs.YtjhfidafeeiogaaW.PrintLast Go.Proofs.YtjhfidafeeiogaaW.PrintMore Go.Proofs.Ytjhfidafeeiogaa.PM Go.Proofs.Ytjhfidafeeiogaa.My TicketF
set_option linter.unusedVariables false
theorem no (l : List SortF.KV) (k : ByteArray) : Ev (fun n => batonlaw15_TicketOrders.j0 n l k true) true := Ev.step (fun n => by apply batonlaw15_TicketOrders.j0.eq_2) (ev_if rfl (ev_b live (Ev.now _)))
theorem pure_holds : Pure := by
  intro l k _ _
  refine Ev.rounds (g := fun n => batonlaw15_TicketOrders.f n l k) ?_
  unfold batonlaw15_TicketOrders.f
  refine ev_b (few_f (by decide) l) ?_
  by_cases h1 : few 40 l = true
  · have hl := few_len h1
    refine ev_if h1 ?_
    by_cases h2 : (k.size : Int) > 60
    · rw [decide_eq_true h2]
      exact no l k
    rw [decide_eq_false h2]
    have e := ord_len l
    have e2 := ahead_le k l
    refine Ev.step (fun n => by apply batonlaw15_TicketOrders.j0.eq_2) (ev_ifn (by decide) ?_)
    refine ev_c (order_f (by omega)) (ev_b (order_r (by omega)) (ev_b (kvs_f rfl (by omega)) (ev_if rfl ?_)))
    refine ev_c (place_f (by omega) k) (ev_b (place_r (by omega) k) (ev_if rfl ?_))
    exact ev_c (ahead_f (by omega) k) (ev_b (ahead_r (by omega) k) (ev_b (kvs_f rfl (by omega)) (ev_if rfl (ev_b live (Ev.now _)))))
  · exact ev_ifn h1 (no l k)
end Go.Proofs.Ytjhfidafeeiogaa.PM.GTicketOrders
