/- Tickets in plain Lean: lists put in order: parts of them, what is sifted, what comes behind; lists of unlike keys. -/
import Derived.Test.YtjhfidafeeiogaaTicket
namespace Go.Proofs.Ytjhfidafeeiogaa.PM
open Go.RowKit Go.Proofs.YtjhfidafeeiogaaW.PrintWords Go.Proofs.YtjhfidafeeiogaaW.PrintLast Go.Proofs.YtjhfidafeeiogaaW.PrintMore Go.Proofs.Ytjhfidafeeiogaa.My
set_option linter.unusedVariables false
namespace SortT
variable {α : Type} {lt : α → α → Bool}
theorem ins_perm (x : α) : ∀ l : List α, (ins lt x l).Perm (x :: l)
  | [] => List.Perm.refl _
  | y :: l => by
    rw [ins_cons]
    split
    · exact List.Perm.refl _
    · exact ((ins_perm x l).cons y).trans (List.Perm.swap x y l)
theorem mrg_perm : ∀ (b a : List α), (mrg lt a b).Perm (a ++ b)
  | [], a => by rw [mrg_nil, List.append_nil]
  | x :: b, a => by
    rw [mrg_cons]
    refine (mrg_perm b _).trans ?_
    refine ((ins_perm x a).append_right b).trans ?_
    exact List.perm_middle.symm
theorem tsort_perm (l : List α) : (tsort lt l).Perm l := mrg_perm l []
theorem ins_low {x : α} : ∀ {l : List α}, (∀ y ∈ l, lt x y = true) → ins lt x l = x :: l
  | [], _ => rfl
  | y :: l, h => by rw [ins_cons, if_pos (h y (by simp))]
theorem ins_high {x : α} : ∀ {l t : List α}, (∀ y ∈ l, ¬ lt x y = true) → ins lt x (l ++ t) = l ++ ins lt x t
  | [], t, _ => rfl
  | y :: l, t, h => by
    rw [List.cons_append, ins_cons, if_neg (h y (by simp)), ins_high (fun z hz => h z (by simp [hz]))]
    rfl
/-- What is not less than any of the first stays behind them. -/
theorem mrg_beh : ∀ (b : List α) {s t : List α}, (∀ x ∈ b, ∀ y ∈ s, ¬ lt x y = true) → mrg lt (s ++ t) b = s ++ mrg lt t b
  | [], s, t, _ => rfl
  | x :: b, s, t, h => by
    rw [mrg_cons, mrg_cons, ins_high (h x (by simp)), mrg_beh b (fun z hz => h z (by simp [hz]))]
theorem tsort_behind (h : SW lt) (a b : List α) (hb : ∀ x ∈ b, ∀ y ∈ a, ¬ lt x y = true) : tsort lt (a ++ b) = tsort lt a ++ tsort lt b := by
  have e : tsort lt (a ++ b) = mrg lt (tsort lt a ++ []) b := by rw [List.append_nil]; exact mrg_append [] a b
  rw [e, mrg_beh b (fun x hx y hy => hb x hx y ((tsort_perm a).mem_iff.1 hy))]
  rfl
theorem srt_cons' {x : α} {l : List α} : srt lt (x :: l) ↔ (∀ y ∈ l, ¬ lt y x = true) ∧ srt lt l := List.pairwise_cons
/-- Sifting and inserting. -/
theorem ins_filter (h : SW lt) (p : α → Bool) {x : α} (hx : p x = true) : ∀ {l : List α}, srt lt l → (ins lt x l).filter p = ins lt x (l.filter p)
  | [], _ => by simp [ins, hx]
  | y :: l, hs => by
    obtain ⟨h1, h2⟩ := srt_cons'.1 hs
    rw [ins_cons]
    split
    · rename_i c
      rw [List.filter_cons, if_pos hx]
      symm
      apply ins_low
      intro z hz
      rcases List.mem_cons.1 ((List.mem_filter.1 hz).1) with e | hm
      · rw [e]; exact c
      · exact h.lt_of c (h1 z hm)
    · rename_i c
      rw [List.filter_cons, List.filter_cons]
      split
      · rw [ins_cons, if_neg c, ins_filter h p hx h2]
      · exact ins_filter h p hx h2
theorem ins_filter_no (p : α → Bool) {x : α} (hx : ¬ p x = true) : ∀ {l : List α}, (ins lt x l).filter p = l.filter p
  | [] => by simp [ins, hx]
  | y :: l => by
    rw [ins_cons]
    split
    · rw [List.filter_cons, if_neg hx]
    · rw [List.filter_cons, List.filter_cons, ins_filter_no p hx]
theorem mrg_filter (h : SW lt) (p : α → Bool) : ∀ (b : List α) {a : List α}, srt lt a → (mrg lt a b).filter p = mrg lt (a.filter p) (b.filter p)
  | [], a, _ => rfl
  | x :: b, a, hs => by
    rw [mrg_cons, mrg_filter h p b (ins_srt h x hs), List.filter_cons]
    split
    · rename_i c
      rw [mrg_cons, ins_filter h p c hs]
    · rename_i c
      rw [ins_filter_no p c]
theorem tsort_filter (h : SW lt) (p : α → Bool) (l : List α) : tsort lt (l.filter p) = (tsort lt l).filter p := by
  unfold tsort
  rw [mrg_filter h p l (by simp [srt])]
  rfl
theorem ins_sub (h : SW lt) (x : α) : ∀ {a s : List α}, a.Sublist s → srt lt s → (ins lt x a).Sublist (ins lt x s) := by
  intro a s hs
  induction hs with
  | slnil => exact fun _ => List.Sublist.refl _
  | @cons a s y hs ih =>
    intro hq
    obtain ⟨h1, h2⟩ := srt_cons'.1 hq
    rw [ins_cons]
    split
    · rename_i c
      rw [ins_low (fun z hz => h.lt_of c (h1 z (hs.subset hz)))]
      exact (hs.cons y).cons_cons x
    · exact (ih h2).cons y
  | @cons_cons a s y hs ih =>
    intro hq
    obtain ⟨h1, h2⟩ := srt_cons'.1 hq
    rw [ins_cons, ins_cons]
    split
    · exact (hs.cons_cons y).cons_cons x
    · exact (ih h2).cons_cons y
theorem sub_ins (x : α) : ∀ s : List α, s.Sublist (ins lt x s)
  | [] => List.nil_sublist _
  | y :: s => by
    rw [ins_cons]
    split
    · exact List.sublist_cons_self _ _
    · exact (sub_ins x s).cons_cons y
theorem mrg_sub (h : SW lt) {m l : List α} (hm : m.Sublist l) : ∀ {a s : List α}, a.Sublist s → srt lt s → (mrg lt a m).Sublist (mrg lt s l) := by
  induction hm with
  | slnil => exact fun ha _ => ha
  | @cons m l x hm ih =>
    intro a s ha hs
    rw [mrg_cons]
    exact ih (ha.trans (sub_ins x s)) (ins_srt h x hs)
  | @cons_cons m l x hm ih =>
    intro a s ha hs
    rw [mrg_cons, mrg_cons]
    exact ih (ins_sub h x ha hs) (ins_srt h x hs)
theorem tsort_sub (h : SW lt) {m l : List α} (hm : m.Sublist l) : (tsort lt m).Sublist (tsort lt l) := mrg_sub h hm (List.Sublist.refl _) (by simp [srt])
end SortT
namespace TicketF
open SortT SortF
theorem ord_perm (l : List KV) : (ord l).Perm l := tsort_perm l
theorem ord_srt (l : List KV) : srt bf (ord l) := mrg_srt sw (by simp [srt])
/-- No two keys of a list are the same. -/
def unl (l : List KV) : Prop := l.Pairwise (fun x y => x.f0 ≠ y.f0)
theorem unl_ord {l : List KV} (h : unl l) : unl (ord l) := (List.Perm.pairwise_iff (R := fun x y : KV => x.f0 ≠ y.f0) (fun c => c.symm) (ord_perm l)).2 h
theorem unl_inj {l : List KV} (h : unl l) {x y : KV} (hx : x ∈ l) (hy : y ∈ l) (e : x.f0 = y.f0) : x = y := by
  induction l with
  | nil => simp at hx
  | cons z l ih =>
    obtain ⟨h1, h2⟩ := List.pairwise_cons.1 h
    rcases List.mem_cons.1 hx with e1 | hx1
    · rcases List.mem_cons.1 hy with e2 | hy1
      · rw [e1, e2]
      · exact absurd (by rw [← e1]; exact e) (h1 y hy1)
    · rcases List.mem_cons.1 hy with e2 | hy1
      · exact absurd (by rw [← e2]; exact e.symm) (h1 x hx1)
      · exact ih h2 hx1 hy1
theorem has_iff {k : ByteArray} {s : List KV} : has k s = true ↔ ∃ x ∈ s, x.f0 = k := by unfold has; simp
theorem hd_app {k : ByteArray} : ∀ {s t : List KV}, has k s = true → hd k (s ++ t) = hd k s
  | [], t, h => by simp [has] at h
  | x :: s, t, h => by
    unfold hd
    rw [List.cons_append, List.takeWhile_cons, List.takeWhile_cons]
    by_cases c : x.f0 = k
    · simp [c]
    · simp only [c, decide_false, Bool.not_false, if_true]
      have := hd_app (k := k) (s := s) (t := t) (by unfold has at h ⊢; simpa [c] using h)
      unfold hd at this
      rw [this]
theorem hd_sub {k : ByteArray} {a s : List KV} (hs : a.Sublist s) (hu : unl s) (hk : has k a = true) : (hd k a).Sublist (hd k s) := by
  induction hs with
  | slnil => exact List.Sublist.refl _
  | @cons a s y hs ih =>
    obtain ⟨h1, h2⟩ := List.pairwise_cons.1 hu
    obtain ⟨x, hx, e⟩ := has_iff.1 hk
    have c : y.f0 ≠ k := fun q => h1 x (hs.subset hx) (q.trans e.symm)
    have := ih h2 hk
    unfold hd at this ⊢
    rw [List.takeWhile_cons]
    simp only [c, decide_false, Bool.not_false, if_true]
    exact this.cons y
  | @cons_cons a s y hs ih =>
    obtain ⟨h1, h2⟩ := List.pairwise_cons.1 hu
    unfold hd at ih ⊢
    rw [List.takeWhile_cons, List.takeWhile_cons]
    by_cases c : y.f0 = k
    · simp [c]
    · simp only [c, decide_false, Bool.not_false, if_true]
      exact (ih h2 (by unfold has at hk ⊢; simpa [c] using hk)).cons_cons y
theorem hd_at {s : List KV} (hu : unl s) : ∀ (i : Nat) (h : i < s.length), hd s[i].f0 s = s.take i := by
  induction s with
  | nil => intro i h; simp at h
  | cons y s ih =>
    obtain ⟨h1, h2⟩ := List.pairwise_cons.1 hu
    intro i h
    unfold hd
    rw [List.takeWhile_cons]
    cases i with
    | zero => simp
    | succ i =>
      have hi : i < s.length := by simpa using h
      have c : y.f0 ≠ s[i].f0 := h1 _ (List.getElem_mem hi)
      have := ih h2 i hi
      unfold hd at this
      simp only [List.getElem_cons_succ, c, decide_false, Bool.not_false, if_true, List.take_succ_cons, this]
/-- The keys of those of which R holds, one behind the other. -/
theorem hfold_unl (R : ByteArray → Bool) : ∀ (s : List KV) (q : List ByteArray), unl s → (∀ x ∈ s, x.f0 ∉ q) → hfold R s q = q ++ (s.filter (fun x => R x.f0)).map (·.f0)
  | [], q, _, _ => by simp [hfold]
  | x :: s, q, hu, hq => by
    obtain ⟨h1, h2⟩ := List.pairwise_cons.1 hu
    show hfold R s (hstep R q x) = _
    unfold hstep
    rw [if_neg (hq x (by simp)), List.filter_cons]
    split
    · rename_i c
      rw [hfold_unl R s _ h2 (fun y hy => by
        rw [List.mem_append, List.mem_singleton]
        rintro (c2 | c2)
        · exact hq y (by simp [hy]) c2
        · exact h1 y hy c2.symm)]
      simp [List.append_assoc]
    · rw [hfold_unl R s q h2 (fun y hy => hq y (by simp [hy]))]
theorem ready_at (kind n : Int) {l : List KV} (hu : unl l) {i : Nat} (h : i < (ord l).length) : ready kind n l (ord l)[i].f0 = rdy kind n ((ord l).take i) := by
  unfold ready
  rw [hd_at (unl_ord hu) i h]
  have : has (ord l)[i].f0 l = true := has_iff.2 ⟨_, ord_mem.1 (List.getElem_mem h), rfl⟩
  rw [this, Bool.true_and]
theorem filter_first {α : Type} (p : α → Bool) (m : Nat) : ∀ (s : List α) (_ : ∀ (i : Nat) (h : i < s.length), p s[i] = decide (i < m)), s.filter p = s.take m := by
  induction m with
  | zero =>
    intro s h
    rw [List.take_zero, List.filter_eq_nil_iff]
    intro x hx
    obtain ⟨i, hi, rfl⟩ := List.mem_iff_getElem.1 hx
    rw [h i hi]
    simp
  | succ m ih =>
    intro s h
    cases s with
    | nil => rfl
    | cons x s =>
      have h0 := h 0 (by simp)
      simp only [List.getElem_cons_zero, Nat.zero_lt_succ, decide_true] at h0
      rw [List.filter_cons, if_pos h0, List.take_succ_cons, ih s (fun i hi => by
        have := h (i + 1) (by simpa using hi)
        simpa using this)]
theorem hold_one (kind n : Int) {l : List KV} (hu : unl l) (hk : kind = 1 ∨ kind = 3 ∨ kind = 5) : holders kind n l = ((ord l).take 1).map (·.f0) := by
  unfold holders
  rw [hfold_unl _ _ _ (unl_ord hu) (by simp), List.nil_append, filter_first _ 1]
  intro i hi
  rw [ready_at kind n hu hi]
  unfold rdy
  rw [if_pos hk]
  cases i with
  | zero => simp
  | succ i =>
    rw [List.isEmpty_eq_false_iff.2 (by intro e; have := congrArg List.length e; simp only [List.length_take, List.length_nil] at this; omega)]
    simp
theorem hold_permit (n : Int) {l : List KV} (hu : unl l) : holders 4 n l = ((ord l).take n.toNat).map (·.f0) := by
  unfold holders
  rw [hfold_unl _ _ _ (unl_ord hu) (by simp), List.nil_append, filter_first _ n.toNat]
  intro i hi
  rw [ready_at 4 n hu hi]
  unfold rdy
  rw [if_neg (by decide), if_neg (by decide), if_pos rfl, decide_eq_decide, List.length_take]
  omega
end TicketF
end Go.Proofs.Ytjhfidafeeiogaa.PM
