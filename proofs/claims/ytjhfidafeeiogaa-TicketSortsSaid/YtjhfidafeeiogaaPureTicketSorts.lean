/- TicketSorts: the pure statement, out of the plain laws of tickets. -/
import Derived.Test.YtjhfidafeeiogaaPM21
import Derived.Test.YtjhfidafeeiogaaSaidTicketSorts
import Derived.Test.YtjhfidafeeiogaaTicketMore
namespace Go.Proofs.Ytjhfidafeeiogaa.PM.GTicketSorts
open Go.RowKit Go.Proofs.YtjhfidafeeiogaaW.PrintWords Go.Proofs.YtjhfidafeeiogaaW.PrintLast Go.Proofs.YtjhfidafeeiogaaW.PrintMore Go.Proofs.Ytjhfidafeeiogaa.PM Go.Proofs.Ytjhfidafeeiogaa.My TicketF SortF SortT
set_option linter.unusedVariables false
theorem no (l : List KV) (k : ByteArray) : Ev (fun n => batonlaw15_TicketSorts.j0 n l k true) true := Ev.step (fun n => by apply batonlaw15_TicketSorts.j0.eq_2) (ev_if rfl (ev_b live (Ev.now _)))
theorem has_ne {x : KV} {k : ByteArray} {s : List KV} (c : ¬ x.f0 = k) : has k (x :: s) = has k s := by unfold has; rw [List.any_cons, decide_eq_false c, Bool.false_or]
theorem find_l (k : ByteArray) {s : List KV} (hs : s.length ≤ 1000) (d : Nat) : ∀ i : Nat, s.length = i + d → ∃ a b c d e f, Ev (fun n => batonref04_Find.l0 n s k (i : Int)) (a, b, c, d, e, f, has k (s.drop i)) := by
  induction d with
  | zero =>
    intro i hd
    refine ⟨(⟨#[]⟩ : ByteArray), (⟨#[]⟩ : ByteArray), 0, 0, 0, 0, ?_⟩
    refine Ev.step (fun n => by apply batonref04_Find.l0.eq_2) (ev_ifn (by omega) ?_)
    rw [List.drop_of_length_le (by omega)]
    exact Ev.now _
  | succ d ih =>
    intro i hd
    have hlt : i < s.length := by omega
    rw [List.drop_eq_getElem_cons hlt]
    by_cases c : s[i].f0 = k
    · refine ⟨s[i].f0, s[i].f1, s[i].f2, s[i].f3, s[i].f4, s[i].f5, ?_⟩
      refine Ev.step (fun n => by apply batonref04_Find.l0.eq_2) (ev_if (by omega) (ev_if (by omega) (ev_if (by rw [rd hlt, c]) ?_)))
      rw [rd hlt, show has k (s[i] :: s.drop (i + 1)) = true from has_iff.2 ⟨s[i], List.mem_cons_self, c⟩]
      exact Ev.now _
    · obtain ⟨a, b, e, f, g, h, hq⟩ := ih (i + 1) (by omega)
      refine ⟨a, b, e, f, g, h, Ev.step (fun n => by apply batonref04_Find.l0.eq_2) (ev_if (by omega) (ev_if (by omega) (ev_ifn (by rw [rd hlt]; exact fun h => c (tli.1 h)) ?_)))⟩
      rw [nx (by omega), has_ne c]
      exact hq
theorem hd_key {k : ByteArray} : ∀ {s : List KV}, has k s = true → ∃ h : (hd k s).length < s.length, s[(hd k s).length].f0 = k
  | [], h => by simp [has] at h
  | x :: s, h => by
    unfold hd
    rw [List.takeWhile_cons]
    by_cases c : x.f0 = k
    · simp [c]
    · obtain ⟨h1, h2⟩ := hd_key (k := k) (s := s) (by unfold has at h ⊢; simpa [c] using h)
      unfold hd at h1 h2
      simp only [c, decide_false, Bool.not_false, if_true, List.length_cons, List.getElem_cons_succ]
      exact ⟨by omega, h2⟩
/-- Are two things the same, as Go tells it? -/
def eqb (a b : KV) : Bool := ((a.f0.toList) == (b.f0.toList)) && (((a.f1.toList) == (b.f1.toList)) && ((a.f2 == b.f2) && ((a.f3 == b.f3) && ((a.f4 == b.f4) && (a.f5 == b.f5)))))
theorem cnt_step {l : List KV} {i : Nat} (h : i < l.length) (p : KV → Bool) : (l.take (i + 1)).countP p = (l.take i).countP p + if p l[i] = true then 1 else 0 := by
  rw [List.take_succ_eq_append_getElem h, List.countP_append, List.countP_cons, List.countP_nil]
  simp
theorem loop1 {l o : List KV} (hl : l.length ≤ 40) (he : o.length = l.length) (hp : o.Perm l) {k : ByteArray} {i : Nat} (hi : i < o.length) (hc : Ev (fun n => batonlaw15_TicketSorts.l0 n l k o ((i + 1 : Nat) : Int)) true) (d : Nat) :
    ∀ j : Nat, l.length = j + d → Ev (fun n => batonlaw15_TicketSorts.l1 n l k o (i : Int) (((l.take j).countP (fun x => eqb x o[i]) : Int) - ((o.take j).countP (fun x => eqb x o[i]) : Int)) (j : Int)) true := by
  induction d with
  | zero =>
    intro j hj
    rw [List.take_of_length_le (by omega), List.take_of_length_le (by omega), hp.countP_eq]
    refine Ev.step (fun n => by apply batonlaw15_TicketSorts.l1.eq_2) (ev_ifn (by omega) (ev_if (by omega) ?_))
    rw [nx (by omega)]
    exact hc
  | succ d ih =>
    intro j hj
    have hlt : j < l.length := by omega
    have hlo : j < o.length := by omega
    have h1 := List.countP_le_length (p := fun x => eqb x o[i]) (l := l.take j)
    have h2 := List.countP_le_length (p := fun x => eqb x o[i]) (l := o.take j)
    rw [List.length_take] at h1 h2
    have hk := ih (j + 1) (by omega)
    rw [cnt_step hlt, cnt_step hlo] at hk
    refine Ev.step (fun n => by apply batonlaw15_TicketSorts.l1.eq_2) (ev_if (by omega) (ev_if (by omega) (ev_if (by omega) (ev_if (by omega) ?_))))
    rw [rd hlt, rd hlo, rd hi, nx (by omega)]
    generalize (l.take j).countP (fun x => eqb x o[i]) = A at h1 hk ⊢
    generalize (o.take j).countP (fun x => eqb x o[i]) = B at h2 hk ⊢
    by_cases c : eqb l[j] o[i] = true
    · refine ev_if c (ev_if (by omega) ?_)
      rw [if_pos c] at hk
      by_cases c2 : eqb o[j] o[i] = true
      · refine ev_if c2 ?_
        rw [if_pos c2] at hk
        rw [w64 (n := (A : Int) - B + 1) (by omega) (by omega), w64 (by omega) (by omega)]
        rw [show (A : Int) - B + 1 - 1 = ((A + 1 : Nat) : Int) - ((B + 1 : Nat) : Int) by omega]
        exact hk
      · refine ev_ifn c2 ?_
        rw [if_neg c2] at hk
        rw [w64 (n := (A : Int) - B + 1) (by omega) (by omega)]
        rw [show (A : Int) - B + 1 = ((A + 1 : Nat) : Int) - ((B + 0 : Nat) : Int) by omega]
        exact hk
    · refine ev_ifn c (ev_if (by omega) ?_)
      rw [if_neg c] at hk
      by_cases c2 : eqb o[j] o[i] = true
      · refine ev_if c2 ?_
        rw [if_pos c2] at hk
        rw [w64 (n := (A : Int) - B - 1) (by omega) (by omega)]
        rw [show (A : Int) - B - 1 = ((A + 0 : Nat) : Int) - ((B + 1 : Nat) : Int) by omega]
        exact hk
      · refine ev_ifn c2 ?_
        rw [if_neg c2] at hk
        exact hk
theorem last {l : List KV} (hl : l.length ≤ 40) (k : ByteArray) : Ev (fun n => (ticket_Place.f l k).bind fun t408 => ((batonref04_Find.f n l k).bind fun bt409 => (if t408 < 0 then (if t408 = (-1) then (if bt409.2.2.2.2.2.2 = true then (none) else ((ticket_Ahead.f l k).bind fun t417 => (if (t417.length : Int) = 0 then ((batonlaw15_live.f n).bind fun t420 => (some t420)) else (none)))) else (none)) else (if bt409.2.2.2.2.2.2 = true then (if t408 < ((ord l).length : Int) then (if 0 ≤ t408 then (if ((rd_T39 (ord l) t408).f0).toList = k.toList then ((ticket_Ahead.f l k).bind fun t422 => (if t408 ≤ ((ord l).length : Int) then ((batonref03_KVs.f n t422 ((ord l).take (t408 : Int).toNat)).bind fun t429 => (if t429 = true then ((batonlaw15_live.f n).bind fun t430 => (some t430)) else (none))) else (none))) else (none)) else (none)) else (none)) else (none))))) true := by
  have eo := ord_len l
  have ea := ahead_le k l
  obtain ⟨a, b, e, f, g, h, hq⟩ := find_l k (s := l) (by omega) l.length 0 (by omega)
  rw [List.drop_zero] at hq
  refine ev_c (place_f (by omega) k) (ev_b (G := fun n => batonref04_Find.f n l k) hq ?_)
  by_cases c : has k l = true
  · have hk : has k (ord l) = true := by rw [has_ord]; exact c
    obtain ⟨h1, h2⟩ := hd_key hk
    have e1 : plc k l = ((hd k (ord l)).length : Int) := by unfold plc; rw [if_pos c]
    have e2 : TicketF.ahead k l = hd k (ord l) := by unfold TicketF.ahead; rw [if_pos c]
    rw [e1]
    refine ev_ifn (by omega) (ev_if c (ev_if (by omega) (ev_if (by omega) (ev_if ?_ ?_))))
    · rw [rd h1, h2]
    · refine ev_c (ahead_f (by omega) k) (ev_if (by omega) ?_)
      rw [Int.toNat_natCast, hd_take]
      exact ev_b (kvs_f e2 (by omega)) (ev_if rfl (ev_b live (Ev.now _)))
  · have e1 : plc k l = -1 := by unfold plc; rw [if_neg c]
    have e2 : TicketF.ahead k l = [] := by unfold TicketF.ahead; rw [if_neg c]
    rw [e1]
    refine ev_if (by decide) (ev_if rfl (ev_ifn c (ev_c (ahead_f (by omega) k) ?_)))
    rw [e2]
    exact ev_if rfl (ev_b live (Ev.now _))
theorem loop0 {l : List KV} (hl : l.length ≤ 40) (k : ByteArray) (d : Nat) : ∀ i : Nat, (ord l).length = i + d → Ev (fun n => batonlaw15_TicketSorts.l0 n l k (ord l) (i : Int)) true := by
  have eo := ord_len l
  induction d with
  | zero =>
    intro i hd
    exact Ev.step (fun n => by apply batonlaw15_TicketSorts.l0.eq_2) (ev_ifn (by omega) (last hl k))
  | succ d ih =>
    intro i hd
    have hlt : i < (ord l).length := by omega
    have fin : Ev (fun n => batonlaw15_TicketSorts.j2 n l k (ord l) (i : Int) false) true := by
      refine Ev.step (fun n => by apply batonlaw15_TicketSorts.j2.eq_2) (ev_ifn (by decide) ?_)
      have := loop1 (o := ord l) hl eo (ord_perm l) hlt (ih (i + 1) (by omega)) l.length 0 (by omega)
      simpa using this
    refine Ev.step (fun n => by apply batonlaw15_TicketSorts.l0.eq_2) (ev_if (by omega) ?_)
    by_cases c : (i : Int) > 0
    · obtain ⟨m, rfl⟩ : ∃ m, i = m + 1 := ⟨i - 1, by omega⟩
      have hm : m < (ord l).length := by omega
      have em : wrap64 (((m + 1 : Nat) : Int) - 1) = (m : Int) := by rw [w64 (by omega) (by omega)]; omega
      refine ev_if c ?_
      rw [em]
      refine ev_if (by omega) (ev_if (by omega) (ev_if (by omega) ?_))
      rw [rd hm, rd hlt]
      have hs := List.pairwise_iff_getElem.1 (ord_srt l) m (m + 1) hm hlt (by omega)
      rw [bf_iff] at hs
      by_cases c1 : (ord l)[m].f2 > (ord l)[m + 1].f2
      · exact absurd (Or.inl c1) hs
      · refine ev_ifn c1 ?_
        by_cases c2 : (ord l)[m].f2 = (ord l)[m + 1].f2
        · refine ev_if c2 ?_
          have : Op.bytesLess ((ord l)[m + 1].f0.toList) ((ord l)[m].f0.toList) = false := by
            rw [← Bool.not_eq_true, tl, tl]
            exact fun h => hs (Or.inr ⟨c2.symm, h⟩)
          rw [this]
          exact fin
        · exact ev_ifn c2 fin
    · exact ev_ifn c fin
theorem pure_holds : Pure := by
  intro l k _ _
  refine Ev.rounds (g := fun n => batonlaw15_TicketSorts.f n l k) ?_
  unfold batonlaw15_TicketSorts.f
  refine ev_b (few_f (by decide) l) ?_
  by_cases h1 : few 40 l = true
  · have hl := few_len h1
    refine ev_if h1 ?_
    by_cases h2 : (k.size : Int) > 60
    · rw [decide_eq_true h2]
      exact no l k
    rw [decide_eq_false h2]
    have eo := ord_len l
    refine Ev.step (fun n => by apply batonlaw15_TicketSorts.j0.eq_2) (ev_ifn (by decide) ?_)
    refine ev_c (order_f (by omega)) ?_
    refine ev_if (by rw [eo]) ?_
    exact loop0 (by omega) k (ord l).length 0 (by omega)
  · exact ev_ifn h1 (no l k)
end Go.Proofs.Ytjhfidafeeiogaa.PM.GTicketSorts
