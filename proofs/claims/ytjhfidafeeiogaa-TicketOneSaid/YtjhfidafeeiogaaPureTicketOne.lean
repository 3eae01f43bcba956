/- TicketOne: the pure statement, out of the plain laws of tickets. -/
import Derived.Test.YtjhfidafeeiogaaSaidTicketOne
import Derived.Test.YtjhfidafeeiogaaTicketUnl
namespace Go.Proofs.Ytjhfidafeeiogaa.PM.GTicketOne
open Go.RowKit Go.Proofs.YtjhfidafeeiogaaW.PrintWords Go.Proofs.YtjhfidafeeiogaaW.PrintLast Go.Proofs.YtjhfidafeeiogaaW.PrintMore Go.Proofs.Ytjhfidafeeiogaa.PM Go.Proofs.Ytjhfidafeeiogaa.My TicketF SortF
set_option linter.unusedVariables false
theorem no (l : List KV) (n : Int) : Ev (fun k => batonlaw15_TicketOne.j0 k l n true) true := Ev.step (fun n => by apply batonlaw15_TicketOne.j0.eq_2) (ev_if rfl (ev_b live (Ev.now _)))
theorem h_len {l : List KV} (hu : unl l) (kind : Int) (hk : kind = 1 ∨ kind = 3 ∨ kind = 5) : ((holders kind 0 l).length : Int) = if (l.length : Int) = 0 then 0 else 1 := by
  rw [hold_one kind 0 hu hk, List.length_map, List.length_take, ord_len]
  split <;> omega
theorem apart {l : List KV} (hu : unl l) {x y : KV} (hx : x ∈ l) (hy : y ∈ l) (h1 : x.f1 = rr) (h2 : ready 2 0 l x.f0 = true) (h3 : y.f1 = ww) (h4 : ready 3 0 l y.f0 = true) : False := by
  obtain ⟨a, ha, ea⟩ := List.mem_iff_getElem.1 (ord_mem.2 hx)
  obtain ⟨b, hb, eb⟩ := List.mem_iff_getElem.1 (ord_mem.2 hy)
  rw [← ea, ready_at 2 0 hu ha] at h2
  rw [← eb, ready_at 3 0 hu hb] at h4
  unfold rdy at h2 h4
  rw [if_neg (by decide), if_pos rfl] at h2
  rw [if_pos (by decide)] at h4
  have hb0 : b = 0 := by
    have := congrArg List.length (List.isEmpty_iff.1 h4)
    simp only [List.length_take, List.length_nil] at this
    omega
  subst hb0
  cases a with
  | zero =>
    rw [← ea, eb, h3] at h1
    exact absurd h1 (by decide)
  | succ a =>
    rw [Bool.not_eq_true', List.any_eq_false] at h2
    refine h2 y ?_ (by rw [h3]; exact decide_eq_true rfl)
    rw [← eb]
    exact List.mem_iff_getElem.2 ⟨0, by rw [List.length_take]; omega, by rw [List.getElem_take]⟩
theorem first_key : ∀ {s : List KV} (h : 0 < s.length), rdOf ByteArray.empty ((s.take 1).map (·.f0)) 0 = s[0].f0
  | [], h => by simp at h
  | z :: s, h => by simp [rdOf]
theorem loop1 {l : List KV} (hl : l.length ≤ 40) (hu : unl l) {i : Nat} (hi : i < l.length) (hc : Ev (fun k => batonlaw15_TicketOne.l0 k l (holders 1 0 l) ((i + 1 : Nat) : Int)) true) (d : Nat) :
    ∀ j : Nat, l.length = j + d → Ev (fun k => batonlaw15_TicketOne.l1 k l (holders 1 0 l) (i : Int) (j : Int)) true := by
  have hlen := h_len hu 1 (Or.inl rfl)
  rw [if_neg (by omega)] at hlen
  induction d with
  | zero =>
    intro j hj
    refine Ev.step (fun n => by apply batonlaw15_TicketOne.l1.eq_2) (ev_ifn (by omega) ?_)
    rw [nx (by omega)]
    exact hc
  | succ d ih =>
    intro j hj
    have hlt : j < l.length := by omega
    have hk := ih (j + 1) (by omega)
    have six (b : Bool) (hb : b = true → l[i].f1 = rr ∧ ready 2 0 l l[i].f0 = true) : Ev (fun k => batonlaw15_TicketOne.j6 k l (holders 1 0 l) (i : Int) (j : Int) b) true := by
      refine Ev.step (fun n => by apply batonlaw15_TicketOne.j6.eq_2) (ev_if (by omega) (ev_if (by omega) (ev_c (b := ww) (by rfl) ?_)))
      rw [rd hlt, nx (by omega)]
      by_cases c : l[j].f1 = ww
      · refine ev_if (tli.2 c) (ev_b (ready_f 3 0 (by omega) _) ?_)
        by_cases hq : b = true
        · refine ev_if hq (ev_ifn (fun e => apart hu (List.getElem_mem hi) (List.getElem_mem hlt) (hb hq).1 (hb hq).2 c e) hk)
        · exact ev_ifn hq hk
      · refine ev_ifn (fun e => c (tli.1 e)) ?_
        by_cases hq : b = true
        · exact ev_if hq hk
        · exact ev_ifn hq hk
    have five : Ev (fun k => batonlaw15_TicketOne.j5 k l (holders 1 0 l) (i : Int) (j : Int) false) true := by
      refine Ev.step (fun n => by apply batonlaw15_TicketOne.j5.eq_2) (ev_ifn (by decide) (ev_if (by omega) (ev_if (by omega) (ev_c (b := rr) (by rfl) ?_))))
      rw [rd hi]
      by_cases c : l[i].f1 = rr
      · exact ev_if (tli.2 c) (ev_b (ready_f 2 0 (by omega) _) (six _ (fun h => ⟨c, h⟩)))
      · exact ev_ifn (fun e => c (tli.1 e)) (six false (by simp))
    refine Ev.step (fun n => by apply batonlaw15_TicketOne.l1.eq_2) (ev_if (by omega) (ev_if (by omega) (ev_if (by omega) (ev_if (by omega) (ev_if (by omega) ?_)))))
    rw [rd hi, rd hlt]
    by_cases c : l[i].f0.toList = (rdOf ByteArray.empty (holders 1 0 l) 0).toList
    · refine ev_if c (ev_if (by omega) ?_)
      have e : ¬ l[j].f2 < l[i].f2 := by
        have h0 : 0 < (ord l).length := by rw [ord_len]; omega
        have e0 : (ord l).head? = some (ord l)[0] := by rw [List.head?_eq_getElem?, List.getElem?_eq_getElem h0]
        have hq := tli.1 c
        have hr : rdOf ByteArray.empty (holders 1 0 l) 0 = (ord l)[0].f0 := by
          rw [hold_one 1 0 hu (Or.inl rfl)]
          exact first_key h0
        rw [hr] at hq
        have := unl_inj hu (List.getElem_mem hi) (ord_mem.1 (List.getElem_mem h0)) hq
        rw [this]
        exact first_create e0 (List.getElem_mem hlt)
      rw [decide_eq_false e]
      exact five
    · exact ev_ifn c five
theorem loop0 {l : List KV} (hl : l.length ≤ 40) (hu : unl l) (d : Nat) : ∀ i : Nat, l.length = i + d → Ev (fun k => batonlaw15_TicketOne.l0 k l (holders 1 0 l) (i : Int)) true := by
  induction d with
  | zero =>
    intro i hd
    exact Ev.step (fun n => by apply batonlaw15_TicketOne.l0.eq_2) (ev_ifn (by omega) (ev_b live (Ev.now _)))
  | succ d ih =>
    intro i hd
    exact Ev.step (fun n => by apply batonlaw15_TicketOne.l0.eq_2) (ev_if (by omega) (loop1 hl hu (by omega) (ih (i + 1) (by omega)) l.length 0 (by omega)))
theorem yes {l : List KV} (hl : l.length ≤ 40) (hu : unl l) (n : Int) (x : Int) (hx : x = if (l.length : Int) = 0 then 0 else 1) : Ev (fun k => batonlaw15_TicketOne.j1 k l n x) true := by
  subst hx
  refine Ev.step (fun n => by apply batonlaw15_TicketOne.j1.eq_2) (ev_b (holders_f 1 0 (l := l) (by omega)) (ev_if (h_len hu 1 (by decide)) (ev_b (holders_f 3 0 (l := l) (by omega)) (ev_if (h_len hu 3 (by decide)) (ev_b (holders_f 5 0 (l := l) (by omega)) (ev_if (h_len hu 5 (by decide)) (ev_b (holders_f 4 n (l := l) (by omega)) ?_)))))))
  have e : ((holders 4 n l).length : Int) = mn (mx n 0) (l.length : Int) := by
    rw [hold_permit n hu, List.length_map, List.length_take, ord_len]
    unfold mn mx
    split <;> split <;> omega
  rw [e]
  refine Ev.step (fun n => by apply batonlaw15_TicketOne.j2.eq_2) (ev_ifn (by simp) ?_)
  exact loop0 hl hu l.length 0 (by omega)
theorem pure_holds : Pure := by
  intro l n _ _
  refine Ev.rounds (g := fun k => batonlaw15_TicketOne.f k l n) ?_
  unfold batonlaw15_TicketOne.f
  refine ev_b (few_f (by decide) l) ?_
  by_cases h1 : few 40 l = true
  · have hl := few_len h1
    obtain ⟨b, hb, hu⟩ := unlike_f (l := l) (by omega)
    refine ev_if h1 (ev_b hb ?_)
    cases b with
    | false => exact no l n
    | true =>
      replace hu := hu rfl
      refine Ev.step (fun n => by apply batonlaw15_TicketOne.j0.eq_2) (ev_ifn (by decide) ?_)
      by_cases h0 : (l.length : Int) = 0
      · exact ev_if h0 (yes (by omega) hu n 0 (by rw [if_pos h0]))
      · exact ev_ifn h0 (yes (by omega) hu n 1 (by rw [if_neg h0]))
  · exact ev_ifn h1 (no l n)
end Go.Proofs.Ytjhfidafeeiogaa.PM.GTicketOne
