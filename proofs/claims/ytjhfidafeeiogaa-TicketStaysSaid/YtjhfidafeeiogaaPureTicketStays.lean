/- TicketStays: the pure statement, out of the plain laws of tickets. -/
import Derived.Test.YtjhfidafeeiogaaSaidTicketStays
import Derived.Test.YtjhfidafeeiogaaTicketUnl
namespace Go.Proofs.Ytjhfidafeeiogaa.PM.GTicketStays
open Go.RowKit Go.Proofs.YtjhfidafeeiogaaW.PrintWords Go.Proofs.YtjhfidafeeiogaaW.PrintLast Go.Proofs.YtjhfidafeeiogaaW.PrintMore Go.Proofs.Ytjhfidafeeiogaa.PM Go.Proofs.Ytjhfidafeeiogaa.My TicketF SortF SortT
set_option linter.unusedVariables false
theorem no (l m : List KV) (a b : Int) : Ev (fun k => batonlaw15_TicketStays.j0 k l m true a b) true := Ev.step (fun n => by apply batonlaw15_TicketStays.j0.eq_2) (ev_if rfl (ev_b live (Ev.now _)))
/-- Who is ready stays so. -/
theorem rdy_sub (kind n : Int) {a s : List KV} (h : a.Sublist s) (hr : rdy kind n s = true) : rdy kind n a = true := by
  unfold rdy at hr ⊢
  split
  · rename_i c
    rw [if_pos c] at hr
    have := List.isEmpty_iff.1 hr
    subst this
    rw [List.sublist_nil.1 h]
    rfl
  · rename_i c
    rw [if_neg c] at hr
    split
    · rename_i c2
      rw [if_pos c2, Bool.not_eq_true', List.any_eq_false] at hr
      rw [Bool.not_eq_true', List.any_eq_false]
      exact fun x hx => hr x (h.subset hx)
    · rename_i c2
      rw [if_neg c2] at hr
      split
      · rename_i c3
        rw [if_pos c3, decide_eq_true_iff] at hr
        have := h.length_le
        exact decide_eq_true (by omega)
      · rename_i c3
        rw [if_neg c3] at hr
        exact hr
theorem stays (kind n : Int) {l a b : List KV} (hu : unl l) {x : KV} (hx : x ∈ a) (hs : a.Sublist l) (hb : ∀ y ∈ b, ∀ z ∈ l, z.f2 < y.f2) (hr : ready kind n l x.f0 = true) : ready kind n (a ++ b) x.f0 = true := by
  unfold ready at hr ⊢
  rw [Bool.and_eq_true] at hr ⊢
  have hk : has x.f0 (ord a) = true := has_iff.2 ⟨x, ord_mem.2 hx, rfl⟩
  refine ⟨has_iff.2 ⟨x, by simp [hx], rfl⟩, ?_⟩
  have e : ord (a ++ b) = ord a ++ ord b := tsort_behind sw a b (fun y hy z hz c => by
    have := hb y hy z (hs.subset hz)
    rcases (bf_iff _ _).1 c with h | h
    · omega
    · omega)
  rw [e, hd_app hk]
  exact rdy_sub kind n (hd_sub (tsort_sub sw hs) (unl_ord hu) hk) hr.2
/-- The greatest Create. -/
def most : Int → List KV → Int
  | m, [] => m
  | m, x :: l => most (mx m x.f2) l
theorem most_ge : ∀ (l : List KV) (m : Int), m ≤ most m l ∧ ∀ x ∈ l, x.f2 ≤ most m l
  | [], m => ⟨Int.le_refl _, by simp⟩
  | x :: l, m => by
    obtain ⟨h1, h2⟩ := most_ge l (mx m x.f2)
    have e1 : m ≤ mx m x.f2 := by unfold mx; split <;> omega
    have e2 : x.f2 ≤ mx m x.f2 := by unfold mx; split <;> omega
    refine ⟨Int.le_trans e1 h1, fun y hy => ?_⟩
    rcases List.mem_cons.1 hy with rfl | hy
    · exact Int.le_trans e2 h1
    · exact h2 y hy
theorem loop0 (kind n : Int) {l m : List KV} (hl : l.length ≤ 40) {M : Int} (hc : Ev (fun k => batonlaw15_TicketStays.l1 k l m M 0 kind n) true) (d : Nat) : ∀ (i : Nat) (x : Int), l.length = i + d → most x (l.drop i) = M → Ev (fun k => batonlaw15_TicketStays.l0 k l m x (i : Int) kind n) true := by
  induction d with
  | zero =>
    intro i x hd hm
    rw [List.drop_of_length_le (by omega)] at hm
    obtain rfl : x = M := hm
    exact Ev.step (fun n => by apply batonlaw15_TicketStays.l0.eq_2) (ev_ifn (by omega) hc)
  | succ d ih =>
    intro i x hd hm
    have hlt : i < l.length := by omega
    rw [List.drop_eq_getElem_cons hlt] at hm
    refine Ev.step (fun n => by apply batonlaw15_TicketStays.l0.eq_2) (ev_if (by omega) (ev_if (by omega) ?_))
    rw [rd hlt, nx (by omega)]
    exact ih (i + 1) _ (by omega) hm
/-- Those that stay: the i-th one, and those behind g. -/
def stay (i g : Nat) (l : List KV) (j : Nat) : List KV := match l with
  | [] => []
  | x :: l => if j = i ∨ g < j then x :: stay i g l (j + 1) else stay i g l (j + 1)
theorem stay_sub (i g : Nat) : ∀ (l : List KV) (j : Nat), (stay i g l j).Sublist l
  | [], j => List.Sublist.refl _
  | x :: l, j => by
    unfold stay
    split
    · exact (stay_sub i g l (j + 1)).cons_cons x
    · exact (stay_sub i g l (j + 1)).cons x
theorem stay_mem (i g : Nat) : ∀ (l : List KV) (j d : Nat) (hd : i = j + d) (h : d < l.length), l[d] ∈ stay i g l j
  | [], j, d, _, h => by simp at h
  | x :: l, j, d, hd, h => by
    unfold stay
    cases d with
    | zero =>
      rw [if_pos (Or.inl (by omega))]
      exact List.mem_cons_self
    | succ d =>
      have := stay_mem i g l (j + 1) d (by omega) (by simpa using h)
      split
      · exact List.mem_cons_of_mem _ this
      · exact this
def come (M : Int) (k : ByteArray) (m : List KV) : List KV := m.filter (fun y => decide (y.f2 > M) && !decide (y.f0 = k))
theorem loop4 (kind n : Int) {l m : List KV} (hl : l.length ≤ 40) (hm : m.length ≤ 20) {M : Int} {i g : Nat} (hi : i < l.length) {R : List KV} (hR : R.length ≤ 100) (hr : ready kind n R l[i].f0 = true) (hg : g ≤ 40) (hc : Ev (fun k => batonlaw15_TicketStays.l2 k l m M (i : Int) ((g + 1 : Nat) : Int) kind n) true) (d : Nat) :
    ∀ (j : Nat) (q : List KV), m.length = j + d → q.length ≤ 40 + j → q ++ come M l[i].f0 (m.drop j) = R → Ev (fun k => batonlaw15_TicketStays.l4 k l m M (i : Int) (g : Int) q (j : Int) kind n) true := by
  induction d with
  | zero =>
    intro j q hd hq e
    rw [List.drop_of_length_le (by omega)] at e
    obtain rfl : q = R := by simpa [come] using e
    refine Ev.step (fun n => by apply batonlaw15_TicketStays.l4.eq_2) (ev_ifn (by omega) (ev_if (by omega) (ev_if (by omega) ?_)))
    rw [rd hi, nx (by omega)]
    exact ev_b (ready_f kind n (by omega) _) (ev_if hr hc)
  | succ d ih =>
    intro j q hd hq e
    have hlt : j < m.length := by omega
    rw [List.drop_eq_getElem_cons hlt] at e
    refine Ev.step (fun n => by apply batonlaw15_TicketStays.l4.eq_2) (ev_if (by omega) (ev_if (by omega) ?_))
    rw [rd hlt, nx (by omega), rd hi]
    unfold come at e
    rw [List.filter_cons] at e
    by_cases c : m[j].f2 > M
    · refine ev_if c (ev_if (by omega) (ev_if (by omega) ?_))
      by_cases c2 : m[j].f0 = l[i].f0
      · rw [if_neg (by simp [c2])] at e
        exact ev_if (tli.2 c2) (ih (j + 1) q (by omega) (by omega) e)
      · rw [if_pos (by simp [c2, c])] at e
        refine ev_ifn (fun h => c2 (tli.1 h)) (ev_if (by omega) (ih (j + 1) _ (by omega) (by simp; omega) ?_))
        rw [List.append_assoc]
        exact e
    · rw [if_neg (by simp [c])] at e
      exact ev_ifn c (ih (j + 1) q (by omega) (by omega) e)
theorem loop3 (kind n : Int) {l m : List KV} (hl : l.length ≤ 40) {M : Int} {i g : Nat} (hi : i < l.length) {R : List KV} (hg : g ≤ 40) (hRl : R.length ≤ l.length) (hc : Ev (fun k => batonlaw15_TicketStays.l4 k l m M (i : Int) (g : Int) R 0 kind n) true) (d : Nat) :
    ∀ (j : Nat) (q : List KV), l.length = j + d → q ++ stay i g (l.drop j) j = R → Ev (fun k => batonlaw15_TicketStays.l3 k l m M (i : Int) (g : Int) q (j : Int) kind n) true := by
  induction d with
  | zero =>
    intro j q hd e
    rw [List.drop_of_length_le (by omega)] at e
    obtain rfl : q = R := by simpa [stay] using e
    exact Ev.step (fun n => by apply batonlaw15_TicketStays.l3.eq_2) (ev_ifn (by omega) hc)
  | succ d ih =>
    intro j q hd e
    have hlt : j < l.length := by omega
    have hql : q.length ≤ R.length := by rw [← e, List.length_append]; omega
    rw [List.drop_eq_getElem_cons hlt] at e
    refine Ev.step (fun n => by apply batonlaw15_TicketStays.l3.eq_2) (ev_if (by omega) ?_)
    rw [rd hlt, nx (by omega)]
    unfold stay at e
    by_cases c : (j : Int) = (i : Int)
    · rw [if_pos (Or.inl (by omega))] at e
      refine ev_if c (ev_if (by omega) (ev_if (by omega) (ih (j + 1) _ (by omega) ?_)))
      rw [List.append_assoc]
      exact e
    · refine ev_ifn c ?_
      by_cases c2 : (j : Int) > (g : Int)
      · rw [if_pos (Or.inr (by omega))] at e
        refine ev_if c2 (ev_if (by omega) (ev_if (by omega) (ih (j + 1) _ (by omega) ?_)))
        rw [List.append_assoc]
        exact e
      · rw [if_neg (by omega)] at e
        exact ev_ifn c2 (ih (j + 1) q (by omega) e)
theorem loop2 (kind n : Int) {l m : List KV} (hl : l.length ≤ 40) (hm : m.length ≤ 20) (hu : unl l) {M : Int} (hM : ∀ x ∈ l, x.f2 ≤ M) {i : Nat} (hi : i < l.length) (hr : ready kind n l l[i].f0 = true) (hc : Ev (fun k => batonlaw15_TicketStays.l1 k l m M ((i + 1 : Nat) : Int) kind n) true) (d : Nat) :
    ∀ g : Nat, l.length = g + d → Ev (fun k => batonlaw15_TicketStays.l2 k l m M (i : Int) (g : Int) kind n) true := by
  induction d with
  | zero =>
    intro g hd
    refine Ev.step (fun n => by apply batonlaw15_TicketStays.l2.eq_2) (ev_ifn (by omega) ?_)
    rw [nx (by omega)]
    exact hc
  | succ d ih =>
    intro g hd
    refine Ev.step (fun n => by apply batonlaw15_TicketStays.l2.eq_2) (ev_if (by omega) ?_)
    have hs := stay_sub i g l 0
    have hlen := hs.length_le
    have hcl : (come M l[i].f0 m).length ≤ m.length := List.length_filter_le _ _
    refine loop3 kind n hl hi (by omega) hlen (R := stay i g l 0) ?_ l.length 0 [] (by omega) rfl
    refine loop4 kind n hl hm hi (R := stay i g l 0 ++ come M l[i].f0 m) (by rw [List.length_append]; omega) ?_ (by omega) (ih (g + 1) (by omega)) m.length 0 _ (by omega) (by omega) rfl
    refine stays kind n hu (stay_mem i g l 0 i (by omega) hi) hs (fun y hy z hz => ?_) hr
    have := (List.mem_filter.1 hy).2
    simp only [Bool.and_eq_true, decide_eq_true_eq] at this
    have := hM z hz
    omega
theorem loop1 (kind n : Int) {l m : List KV} (hl : l.length ≤ 40) (hm : m.length ≤ 20) (hu : unl l) {M : Int} (hM : ∀ x ∈ l, x.f2 ≤ M) (d : Nat) :
    ∀ i : Nat, l.length = i + d → Ev (fun k => batonlaw15_TicketStays.l1 k l m M (i : Int) kind n) true := by
  induction d with
  | zero =>
    intro i hd
    exact Ev.step (fun n => by apply batonlaw15_TicketStays.l1.eq_2) (ev_ifn (by omega) (ev_b live (Ev.now _)))
  | succ d ih =>
    intro i hd
    have hlt : i < l.length := by omega
    refine Ev.step (fun n => by apply batonlaw15_TicketStays.l1.eq_2) (ev_if (by omega) (ev_if (by omega) ?_))
    rw [rd hlt, nx (by omega)]
    refine ev_b (ready_f kind n (by omega) _) ?_
    by_cases c : ready kind n l l[i].f0 = true
    · exact ev_if c (loop2 kind n hl hm hu hM hlt c (ih (i + 1) (by omega)) l.length 0 (by omega))
    · exact ev_ifn c (ih (i + 1) (by omega))
theorem pure_holds : Pure := by
  intro x l m _ _ _
  refine Ev.rounds (g := fun k => batonlaw15_TicketStays.f k x.f0 x.f1 l m) ?_
  generalize x.f0 = kind
  generalize x.f1 = n
  unfold batonlaw15_TicketStays.f
  refine ev_b (few_f (by decide) l) ?_
  by_cases h1 : few 40 l = true
  · have hl := few_len h1
    refine ev_if h1 (ev_b (few_f (by decide) m) ?_)
    by_cases h2 : few 20 m = true
    · have hm := few_len h2
      obtain ⟨b, hb, hu⟩ := unlike_f (l := l) (by omega)
      refine ev_if h2 (ev_b hb ?_)
      cases b with
      | false => exact ev_ifn (by decide) (no l m kind n)
      | true =>
        replace hu := hu rfl
        refine ev_if rfl ?_
        by_cases h0 : (l.length : Int) = 0
        · rw [show ((l.length : Int) == 0) = true from beq_iff_eq.2 h0]
          exact no l m kind n
        · rw [show ((l.length : Int) == 0) = false from beq_eq_false_iff_ne.2 h0]
          refine Ev.step (fun n => by apply batonlaw15_TicketStays.j0.eq_2) (ev_ifn (by decide) (ev_if (by omega) ?_))
          exact loop0 kind n (by omega) (loop1 kind n (by omega) (by omega) hu (most_ge l _).2 l.length 0 (by omega)) l.length 0 _ (by omega) rfl
    · exact ev_ifn h2 (no l m kind n)
  · exact ev_ifn h1 (no l m kind n)
end Go.Proofs.Ytjhfidafeeiogaa.PM.GTicketStays
