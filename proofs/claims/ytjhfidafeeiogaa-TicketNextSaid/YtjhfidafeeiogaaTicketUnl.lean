/- Tickets in plain Lean: whether the keys of a list are unlike; the first one of a list in order. -/
import Derived.Test.YtjhfidafeeiogaaPM19
import Derived.Test.YtjhfidafeeiogaaTicketMore
namespace Go.Proofs.Ytjhfidafeeiogaa.PM
open Go.RowKit Go.Proofs.YtjhfidafeeiogaaW.PrintWords Go.Proofs.YtjhfidafeeiogaaW.PrintLast Go.Proofs.YtjhfidafeeiogaaW.PrintMore Go.Proofs.Ytjhfidafeeiogaa.My
set_option linter.unusedVariables false
namespace TicketF
open SortT SortF
theorem unlike_l1 {l : List KV} (hl : l.length ≤ 1000) {i : Nat} (hi : i < l.length) {Q : Prop} (hc : (∀ (m : Nat) (h : m < i), l[m].f0 ≠ l[i].f0) → ∃ b, Ev (fun k => batonlaw15_unlike.l0 k l ((i + 1 : Nat) : Int)) b ∧ (b = true → Q)) (d : Nat) :
    ∀ j : Nat, i = j + d → (∀ (m : Nat) (h : m < j) (h2 : m < l.length), l[m].f0 ≠ l[i].f0) → ∃ b, Ev (fun k => batonlaw15_unlike.l1 k l (i : Int) (j : Int)) b ∧ (b = true → Q) := by
  induction d with
  | zero =>
    intro j hj hm
    obtain ⟨b, h1, h2⟩ := hc (fun m h => hm m (by omega) (by omega))
    refine ⟨b, Ev.step (fun n => by apply batonlaw15_unlike.l1.eq_2) (ev_ifn (by omega) ?_), h2⟩
    rw [nx (by omega)]
    exact h1
  | succ d ih =>
    intro j hj hm
    have hlt : j < l.length := by omega
    by_cases c : l[j].f0 = l[i].f0
    · refine ⟨false, Ev.step (fun n => by apply batonlaw15_unlike.l1.eq_2) (ev_if (by omega) (ev_if (by omega) (ev_if (by omega) (ev_if (by omega) (ev_if (by omega) ?_))))), by simp⟩
      rw [rd hi, rd hlt]
      exact ev_if (tli.2 c) (Ev.now _)
    · obtain ⟨b, h1, h2⟩ := ih (j + 1) (by omega) (fun m h h3 => by
        rcases Nat.lt_or_ge m j with q | q
        · exact hm m q h3
        · obtain rfl : m = j := by omega
          exact c)
      refine ⟨b, Ev.step (fun n => by apply batonlaw15_unlike.l1.eq_2) (ev_if (by omega) (ev_if (by omega) (ev_if (by omega) (ev_if (by omega) (ev_if (by omega) ?_))))), h2⟩
      rw [rd hi, rd hlt, nx (by omega)]
      exact ev_ifn (fun e => c (tli.1 e)) h1
theorem unlike_l0 {l : List KV} (hl : l.length ≤ 1000) (d : Nat) : ∀ i : Nat, l.length = i + d → (∀ (a b : Nat) (ha : a < l.length) (hb : b < l.length), a < b → b < i → l[a].f0 ≠ l[b].f0) → ∃ b, Ev (fun k => batonlaw15_unlike.l0 k l (i : Int)) b ∧ (b = true → unl l) := by
  induction d with
  | zero =>
    intro i hd h
    refine ⟨true, Ev.step (fun n => by apply batonlaw15_unlike.l0.eq_2) (ev_ifn (by omega) (Ev.now _)), fun _ => ?_⟩
    exact List.pairwise_iff_getElem.2 (fun a b ha hb hab => h a b ha hb hab (by omega))
  | succ d ih =>
    intro i hd h
    have hlt : i < l.length := by omega
    obtain ⟨b, h1, h2⟩ := unlike_l1 hl hlt (Q := unl l) (fun hm => ih (i + 1) (by omega) (fun a b ha hb hab hbi => by
      rcases Nat.lt_or_ge b i with q | q
      · exact h a b ha hb hab q
      · obtain rfl : b = i := by omega
        exact hm a hab)) i 0 (by omega) (fun m h => by omega)
    exact ⟨b, Ev.step (fun n => by apply batonlaw15_unlike.l0.eq_2) (ev_if (by omega) h1), h2⟩
theorem unlike_f {l : List KV} (hl : l.length ≤ 1000) : ∃ b, Ev (fun k => batonlaw15_unlike.f k l) b ∧ (b = true → unl l) := unlike_l0 hl l.length 0 (by omega) (fun a b _ _ _ h => by omega)
theorem first_le {l : List KV} {x y : KV} (hx : (ord l).head? = some x) (hy : y ∈ l) : ¬ bf y x = true := by
  have hs := ord_srt l
  have hm := ord_mem.2 hy
  cases hq : ord l with
  | nil => rw [hq] at hx; simp at hx
  | cons z s =>
    rw [hq] at hx hs hm
    obtain rfl : z = x := by simpa using hx
    rcases List.mem_cons.1 hm with rfl | h
    · exact sw.irrefl _
    · exact (srt_cons'.1 hs).1 y h
theorem first_create {l : List KV} {x y : KV} (hx : (ord l).head? = some x) (hy : y ∈ l) : ¬ y.f2 < x.f2 := fun c => first_le hx hy ((bf_iff _ _).2 (Or.inl c))
end TicketF
end Go.Proofs.Ytjhfidafeeiogaa.PM
