/- TicketTells: the pure statement, out of the plain laws of tickets. -/
import Derived.Test.YtjhfidafeeiogaaSaidTicketTells
import Derived.Test.YtjhfidafeeiogaaTicketTold
namespace Go.Proofs.Ytjhfidafeeiogaa.PM.GTicketTells
open Go.RowKit Go.Proofs.YtjhfidafeeiogaaW.PrintWords Go.Proofs.YtjhfidafeeiogaaW.PrintLast Go.Proofs.YtjhfidafeeiogaaW.PrintMore Go.Proofs.Ytjhfidafeeiogaa.PM Go.Proofs.Ytjhfidafeeiogaa.My TicketF
set_option linter.unusedVariables false
theorem no (l : List SortF.KV) (k : ByteArray) (a b : Int) : Ev (fun n => batonlaw15_TicketTells.j0 n l k true a b) true := Ev.step (fun n => by apply batonlaw15_TicketTells.j0.eq_2) (ev_if rfl (ev_b live (Ev.now _)))
theorem pure_holds : Pure := by
  intro x l k _ _ _
  refine Ev.rounds (g := fun n => batonlaw15_TicketTells.f n x.f0 x.f1 l k) ?_
  generalize x.f0 = a
  generalize x.f1 = b
  unfold batonlaw15_TicketTells.f
  refine ev_b (few_f (by decide) l) ?_
  by_cases h1 : few 40 l = true
  · have hl := few_len h1
    refine ev_if h1 ?_
    by_cases h2 : (k.size : Int) > 60
    · rw [decide_eq_true h2]
      exact no l k a b
    rw [decide_eq_false h2]
    have e := holders_len a b l
    obtain ⟨s, s1, s2⟩ := sign_eq a
    refine Ev.step (fun n => by apply batonlaw15_TicketTells.j0.eq_2) (ev_ifn (by decide) ?_)
    refine ev_b (ready_f a b (by omega) k) (ev_b (ready_r a b (by omega) k) (ev_if (by simp) ?_))
    refine ev_b (holders_f a b (by omega)) (ev_b (holders_r a b (by omega)) (ev_b (texts_f (by omega)) (ev_if rfl ?_)))
    exact ev_c s1 (ev_c s2 (ev_if rfl (ev_b live (Ev.now _))))
  · exact ev_ifn h1 (no l k a b)
end Go.Proofs.Ytjhfidafeeiogaa.PM.GTicketTells
