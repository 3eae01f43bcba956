/- TicketNext: the pure statement, out of the plain laws of tickets. -/
import Derived.Test.YtjhfidafeeiogaaSaidTicketNext
import Derived.Test.YtjhfidafeeiogaaTicketUnl
namespace Go.Proofs.Ytjhfidafeeiogaa.PM.GTicketNext
open Go.RowKit Go.Proofs.YtjhfidafeeiogaaW.PrintWords Go.Proofs.YtjhfidafeeiogaaW.PrintLast Go.Proofs.YtjhfidafeeiogaaW.PrintMore Go.Proofs.Ytjhfidafeeiogaa.PM Go.Proofs.Ytjhfidafeeiogaa.My TicketF SortF SortT
set_option linter.unusedVariables false
theorem no (l : List KV) (n : Int) : Ev (fun k => batonlaw15_TicketNext.j0 k l n true) true := Ev.step (fun n => by apply batonlaw15_TicketNext.j0.eq_2) (ev_if rfl (ev_b live (Ev.now _)))
def rest (z : KV) (l : List KV) : List KV := l.filter (fun x => !decide (x.f0 = z.f0))
theorem rest_l {l : List KV} (hl : l.length ≤ 40) {n : Int} {z : KV} {s : List KV} {R : List KV} (hR : R.length ≤ 100)
    (hc : Ev (fun k => (ticket_Holders.f k 1 0 R).bind fun t443 => ((ticket_Holders.f k 4 n R).bind fun t446 => (if ((z :: s).length : Int) = 1 then (if (t443.length : Int) = 0 then (if (t446.length : Int) = 0 then ((batonlaw15_live.f k).bind fun t449 => (some t449)) else (none)) else (none)) else (if (t443.length : Int) = 1 then (if 0 < (t443.length : Int) then (if 1 < ((z :: s).length : Int) then (if (rdOf ByteArray.empty t443 0).toList = ((rd_T39 (z :: s) 1).f0).toList then (batonlaw15_TicketNext.j2 k (z :: s) t446 ((t446.length : Int) != (mn n (R.length : Int)))) else (batonlaw15_TicketNext.j2 k (z :: s) t446 true)) else (none)) else (none)) else (batonlaw15_TicketNext.j2 k (z :: s) t446 true))))) true) (d : Nat) :
    ∀ (i : Nat) (q : List KV), l.length = i + d → q ++ rest z (l.drop i) = R → Ev (fun k => batonlaw15_TicketNext.l0 k l n (z :: s) q (i : Int)) true := by
  induction d with
  | zero =>
    intro i q hd e
    rw [List.drop_of_length_le (by omega)] at e
    obtain rfl : q = R := by simpa [rest] using e
    exact Ev.step (fun n => by apply batonlaw15_TicketNext.l0.eq_2) (ev_ifn (by omega) hc)
  | succ d ih =>
    intro i q hd e
    have hlt : i < l.length := by omega
    have hq : q.length ≤ R.length := by rw [← e, List.length_append]; omega
    rw [List.drop_eq_getElem_cons hlt] at e
    unfold rest at e
    rw [List.filter_cons] at e
    refine Ev.step (fun n => by apply batonlaw15_TicketNext.l0.eq_2) (ev_if (by omega) (ev_if (by omega) (ev_if (by simp <;> omega) ?_)))
    rw [TicketF.rd hlt, nx (by omega), show rd_T39 (z :: s) 0 = z from rfl]
    by_cases c : l[i].f0 = z.f0
    · rw [if_neg (by simp [c])] at e
      exact ev_if (tli.2 c) (ih (i + 1) q (by omega) e)
    · rw [if_pos (by simp [c])] at e
      refine ev_ifn (fun h => c (tli.1 h)) (ev_if (by omega) (ih (i + 1) _ (by omega) ?_))
      rw [List.append_assoc]
      exact e
theorem loop1 {z : KV} {s : List KV} (hs : s.length ≤ 40) (m : Nat) (d : Nat) : ∀ i : Nat, (s.take m).length = i + d → Ev (fun k => batonlaw15_TicketNext.l1 k (z :: s) ((s.take m).map (·.f0)) (i : Int)) true := by
  have e := List.length_take (i := m) (l := s)
  induction d with
  | zero =>
    intro i hd
    exact Ev.step (fun n => by apply batonlaw15_TicketNext.l1.eq_2) (ev_ifn (by simp at hd ⊢; omega) (ev_b live (Ev.now _)))
  | succ d ih =>
    intro i hd
    have hlt : i < (s.take m).length := by omega
    refine Ev.step (fun n => by apply batonlaw15_TicketNext.l1.eq_2) (ev_if (by rw [List.length_map]; omega) (ev_if (by omega) ?_))
    rw [nx (by omega)]
    refine ev_if (by omega) (ev_if (by simp; omega) (ev_if ?_ (ih (i + 1) (by omega))))
    rw [rdb (by rw [List.length_map]; omega), TicketF.rd (i := i + 1) (by simp; omega)]
    simp
theorem pure_holds : Pure := by
  intro l n _ hn
  have hw := wf64 hn
  refine Ev.rounds (g := fun k => batonlaw15_TicketNext.f k l n) ?_
  unfold batonlaw15_TicketNext.f
  refine ev_b (few_f (by decide) l) ?_
  by_cases h1 : few 40 l = true
  · have hl := few_len h1
    obtain ⟨b, hb, hu⟩ := unlike_f (l := l) (by omega)
    refine ev_if h1 (ev_b hb ?_)
    cases b with
    | false => exact ev_ifn (by decide) (no l n)
    | true =>
      replace hu := hu rfl
      refine ev_if rfl ?_
      by_cases h0 : (l.length : Int) = 0
      · exact ev_if h0 (no l n)
      refine ev_ifn h0 ?_
      by_cases h2 : n < 1
      · rw [decide_eq_true h2]
        exact no l n
      rw [decide_eq_false h2]
      have eo := ord_len l
      refine Ev.step (fun n => by apply batonlaw15_TicketNext.j0.eq_2) (ev_ifn (by decide) ?_)
      refine ev_c (order_f (by omega)) ?_
      refine ev_if (by rw [eo]) ?_
      cases hs : ord l with
      | nil => rw [hs] at eo; simp at eo; omega
      | cons z s =>
        have hsl : s.length + 1 = l.length := by rw [← eo, hs]; rfl
        have hus := unl_ord hu
        rw [hs] at hus
        have er : ord (rest z l) = s := by
          have : ord (rest z l) = (ord l).filter (fun x => !decide (x.f0 = z.f0)) := tsort_filter sw _ l
          rw [this, hs, List.filter_cons, if_neg (by simp)]
          refine List.filter_eq_self.2 (fun y hy => ?_)
          have := (List.pairwise_cons.1 hus).1 y hy
          simp [Ne.symm this]
        have hur : unl (rest z l) := List.Pairwise.sublist List.filter_sublist hu
        have hlen : (rest z l).length = s.length := by rw [← er, ord_len]
        refine rest_l (by omega) (R := rest z l) (by omega) ?_ l.length 0 [] (by omega) rfl
        refine ev_b (holders_f 1 0 (by omega)) (ev_b (holders_f 4 n (by omega)) ?_)
        rw [hold_one 1 0 hur (Or.inl rfl), hold_permit n hur, er]
        cases s with
        | nil => exact ev_if rfl (ev_if (by simp) (ev_if (by simp) (ev_b live (Ev.now _))))
        | cons y s =>
          refine ev_ifn (by simp; omega) (ev_if (by simp) (ev_if (by simp) (ev_if (by simp; omega) (ev_if ?_ ?_))))
          · simp [rdOf, rd_T39]
          · have e : ((((y :: s).take n.toNat).map (·.f0)).length : Int) = mn n ((rest z l).length : Int) := by
              rw [List.length_map, List.length_take, hlen]
              unfold mn
              split <;> omega
            rw [e]
            refine Ev.step (fun n => by apply batonlaw15_TicketNext.j2.eq_2) (ev_ifn (by simp) ?_)
            exact loop1 (by simp at hsl ⊢; omega) n.toNat ((y :: s).take n.toNat).length 0 (by omega)
  · exact ev_ifn h1 (no l n)
end Go.Proofs.Ytjhfidafeeiogaa.PM.GTicketNext
