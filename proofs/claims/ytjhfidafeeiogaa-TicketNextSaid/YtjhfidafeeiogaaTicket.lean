/- Tickets in plain Lean: what the printed functions of ticket come to. -/
import Derived.Test.YtjhfidafeeiogaaPM10
import Derived.Test.YtjhfidafeeiogaaPM12
import Derived.Test.YtjhfidafeeiogaaPM13
import Derived.Test.YtjhfidafeeiogaaPM15
import Derived.Test.YtjhfidafeeiogaaPM18
import Derived.Test.YtjhfidafeeiogaaPM17
import Derived.Test.YtjhfidafeeiogaaPM2
import Derived.Test.YtjhfidafeeiogaaSort
namespace Go.Proofs.Ytjhfidafeeiogaa.PM
open Go.RowKit Go.Proofs.YtjhfidafeeiogaaW.PrintWords Go.Proofs.YtjhfidafeeiogaaW.PrintLast Go.Proofs.YtjhfidafeeiogaaW.PrintMore Go.Proofs.Ytjhfidafeeiogaa.My
set_option linter.unusedVariables false
namespace TicketF
open SortT SortF
theorem tl (s : ByteArray) : s.toList = s.data.toList := ByteArray.toList_eq s
theorem ext {a b : ByteArray} (h : a.data.toList = b.data.toList) : a = b := Go.WideShapes.bytes_inj h
theorem tli {a b : ByteArray} : a.toList = b.toList ↔ a = b := ⟨fun h => ext (by rw [← tl, ← tl, h]), fun h => by rw [h]⟩
theorem rd {l : List KV} {i : Nat} (h : i < l.length) : rd_T39 l (i : Int) = l[i] := by simp [rd_T39, List.getElem?_eq_getElem h]
theorem rdb {l : List ByteArray} {i : Nat} (h : i < l.length) : rdOf ByteArray.empty l (i : Int) = l[i] := by simp [rdOf, List.getElem?_eq_getElem h]
theorem nx {i : Nat} (h : i ≤ 2000) : wrap64 ((i : Int) + 1) = ((i + 1 : Nat) : Int) := by rw [w64 (by omega) (by omega)]; omega
def few (n : Int) (l : List KV) : Bool := decide ((l.length : Int) ≤ n) && l.all (fun x => decide (x.f0.size ≤ 60) && decide (x.f1.size ≤ 60))
theorem few_l (l : List KV) (hl : l.length ≤ 1000) (d : Nat) : ∀ i : Nat, l.length = i + d → Ev (fun n => batonref03_Few.l0 n l (i : Int)) ((l.drop i).all (fun x => decide (x.f0.size ≤ 60) && decide (x.f1.size ≤ 60))) := by
  induction d with
  | zero =>
    intro i hd
    refine Ev.step (fun n => by apply batonref03_Few.l0.eq_2) (ev_ifn (by omega) (ev_now ?_))
    rw [List.drop_of_length_le (by omega)]
    rfl
  | succ d ih =>
    intro i hd
    have hlt : i < l.length := by omega
    rw [List.drop_eq_getElem_cons hlt, List.all_cons]
    refine Ev.step (fun n => by apply batonref03_Few.l0.eq_2) (ev_if (by omega) (ev_if (by omega) ?_))
    rw [rd hlt, nx (by omega)]
    by_cases h : (l[i].f0.size : Int) > 60
    · refine ev_if h (ev_now ?_)
      rw [show decide (l[i].f0.size ≤ 60) = false from decide_eq_false (by omega)]; rfl
    · refine ev_ifn h ?_
      rw [show decide (l[i].f0.size ≤ 60) = true from decide_eq_true (by omega)]
      by_cases h2 : (l[i].f1.size : Int) > 60
      · refine ev_if h2 (ev_now ?_)
        rw [show decide (l[i].f1.size ≤ 60) = false from decide_eq_false (by omega)]; rfl
      · refine ev_ifn h2 ?_
        rw [show decide (l[i].f1.size ≤ 60) = true from decide_eq_true (by omega)]
        exact ih (i + 1) (by omega)
theorem few_f {n : Int} (hn : n ≤ 1000) (l : List KV) : Ev (fun k => batonref03_Few.f k l n) (few n l) := by
  unfold batonref03_Few.f few
  by_cases h : (l.length : Int) > n
  · refine ev_if h (ev_now ?_)
    rw [decide_eq_false (by omega)]; rfl
  · refine ev_ifn h ?_
    rw [decide_eq_true (by omega)]
    have := few_l l (by omega) l.length 0 (by omega)
    exact this
theorem kvs_l (l : List KV) (hl : l.length ≤ 1000) (d : Nat) : ∀ i : Nat, l.length = i + d → Ev (fun n => batonref03_KVs.l0 n l l (i : Int)) true := by
  induction d with
  | zero =>
    intro i hd
    exact Ev.step (fun n => by apply batonref03_KVs.l0.eq_2) (ev_ifn (by omega) (ev_now rfl))
  | succ d ih =>
    intro i hd
    refine Ev.step (fun n => by apply batonref03_KVs.l0.eq_2) (ev_if (by omega) (ev_if (by omega) (ev_if (by omega) ?_)))
    rw [nx (by omega)]
    exact ev_ifn (by simp) (ih (i + 1) (by omega))
theorem kvs_f {l m : List KV} (h : l = m) (hl : l.length ≤ 1000) : Ev (fun n => batonref03_KVs.f n l m) true := by
  subst h
  unfold batonref03_KVs.f
  exact ev_if rfl (kvs_l l hl l.length 0 (by omega))
theorem few_len {l : List KV} {n : Int} (h : few n l = true) : (l.length : Int) ≤ n := by
  unfold few at h
  simp only [Bool.and_eq_true, decide_eq_true_eq] at h
  exact h.1
/-! what lists come to -/
def ord (l : List KV) : List KV := tsort bf l
def has (k : ByteArray) (s : List KV) : Bool := s.any (fun x => decide (x.f0 = k))
instance memDec (k : ByteArray) (q : List ByteArray) : Decidable (k ∈ q) := @List.instDecidableMemOfLawfulBEq ByteArray instBEqOfDecidableEq inferInstance k q
def hd (k : ByteArray) (s : List KV) : List KV := s.takeWhile (fun x => !decide (x.f0 = k))
def ahead (k : ByteArray) (l : List KV) : List KV := if has k l = true then hd k (ord l) else []
def plc (k : ByteArray) (l : List KV) : Int := if has k l = true then ((hd k (ord l)).length : Int) else -1
def ww : ByteArray := ⟨#[119]⟩
def rr : ByteArray := ⟨#[114]⟩
def rdy (kind n : Int) (A : List KV) : Bool := if kind = 1 ∨ kind = 3 ∨ kind = 5 then A.isEmpty else if kind = 2 then !(A.any (fun x => decide (x.f1 = ww))) else if kind = 4 then decide ((A.length : Int) < n) else false
def ready (kind n : Int) (l : List KV) (k : ByteArray) : Bool := has k l && rdy kind n (hd k (ord l))
def hstep (R : ByteArray → Bool) (q : List ByteArray) (x : KV) : List ByteArray := if x.f0 ∈ q then q else if R x.f0 = true then q ++ [x.f0] else q
def hfold (R : ByteArray → Bool) (s : List KV) (q : List ByteArray) : List ByteArray := s.foldl (hstep R) q
def holders (kind n : Int) (l : List KV) : List ByteArray := hfold (ready kind n l) (ord l) []
theorem ord_len (l : List KV) : (ord l).length = l.length := tsort_len l
theorem ord_mem {l : List KV} {z : KV} : z ∈ ord l ↔ z ∈ l := by unfold ord tsort; rw [mrg_mem]; simp
theorem has_ord (k : ByteArray) (l : List KV) : has k (ord l) = has k l := by
  unfold has
  rw [Bool.eq_iff_iff, List.any_eq_true, List.any_eq_true]
  constructor
  · rintro ⟨x, h1, h2⟩
    exact ⟨x, ord_mem.1 h1, h2⟩
  · rintro ⟨x, h1, h2⟩
    exact ⟨x, ord_mem.2 h1, h2⟩
theorem order_f {l : List KV} (h : l.length ≤ 1000) : ticket_Order.f l = some (ord l) := by unfold ticket_Order.f; rw [if_pos h]; rfl
theorem hd_le (k : ByteArray) : ∀ s : List KV, (hd k s).length ≤ s.length
  | [] => Nat.le_refl _
  | x :: s => by
    have := hd_le k s
    unfold hd at this ⊢
    rw [List.takeWhile_cons]
    split
    · simp; omega
    · simp
theorem hd_take (k : ByteArray) : ∀ s : List KV, s.take (hd k s).length = hd k s
  | [] => rfl
  | x :: s => by
    have := hd_take k s
    unfold hd at this ⊢
    rw [List.takeWhile_cons]
    split
    · simp [this]
    · rfl
theorem pl_eq (k : ByteArray) : ∀ (s : List KV) (i : Int), ticket_Place.pl k s i = if has k s = true then i + ((hd k s).length : Int) else -1
  | [], i => rfl
  | x :: s, i => by
    have ih := pl_eq k s (i + 1)
    unfold ticket_Place.pl
    unfold has hd at ih ⊢
    rw [List.any_cons, List.takeWhile_cons]
    by_cases h : x.f0 = k
    · rw [if_pos (by rw [h])]
      simp [h]
    · rw [if_neg (fun c => h (tli.1 c)), ih]
      simp only [h, decide_false, Bool.false_or, Bool.not_false, if_true, List.length_cons]
      split
      · push_cast; omega
      · rfl
theorem place_f {l : List KV} (h : l.length ≤ 1000) (k : ByteArray) : ticket_Place.f l k = some (plc k l) := by
  unfold ticket_Place.f plc
  rw [if_pos h, pl_eq]
  show some (if has k (ord l) = true then _ else _) = _
  rw [has_ord]
  simp only [Int.zero_add]
  rfl
theorem plc_mx (k : ByteArray) (l : List KV) : mx 0 (plc k l) = ((ahead k l).length : Int) := by
  unfold plc ahead mx
  split
  · split <;> omega
  · rfl
theorem ahead_le (k : ByteArray) (l : List KV) : (ahead k l).length ≤ l.length := by
  unfold ahead
  split
  · have := hd_le k (ord l)
    rw [ord_len] at this
    exact this
  · simp
theorem ahead_take (k : ByteArray) (l : List KV) : (ord l).take (ahead k l).length = ahead k l := by
  unfold ahead
  split
  · exact hd_take k (ord l)
  · rfl
theorem ahead_f {l : List KV} (h : l.length ≤ 1000) (k : ByteArray) : ticket_Ahead.f l k = some (ahead k l) := by
  unfold ticket_Ahead.f
  have e := ahead_le k l
  rw [order_f h, place_f h]
  simp only [Option.bind_some]
  rw [plc_mx, if_pos (by omega), if_pos (by rw [ord_len]; omega), Int.toNat_natCast, ahead_take]
theorem hpl_eq (k : ByteArray) : ∀ (s : List KV) (i : Int), hist_is.pl k s i = ticket_Place.pl k s i
  | [], i => rfl
  | x :: s, i => by
    unfold hist_is.pl ticket_Place.pl
    rw [hpl_eq k s]
theorem find_f {l : List KV} (h : l.length ≤ 1000) (k : ByteArray) : ∃ a b c d e f, hist_Find.f l k = some (a, b, c, d, e, f, has k l) := by
  have hp : hist_is.pl k l 0 = if has k l = true then ((hd k l).length : Int) else -1 := by rw [hpl_eq, pl_eq, Int.zero_add]
  unfold hist_Find.f hist_is.f hist_is_ix.f
  simp only [Option.bind_some]
  rw [hp]
  by_cases c : has k l = true
  · rw [if_pos c, if_neg (by omega), if_pos (by omega), if_pos, c]
    · exact ⟨_, _, _, _, _, _, rfl⟩
    · have : (hd k l).length < l.length := by
        clear hp h
        induction l with
        | nil => simp [has] at c
        | cons x l ih =>
          unfold hd has at *
          rw [List.takeWhile_cons]
          rw [List.any_cons] at c
          by_cases q : x.f0 = k
          · simp [q]
          · simp only [q, decide_false, Bool.false_or] at c
            simp only [q, decide_false, Bool.not_false, if_true, List.length_cons]
            have := ih c
            omega
      omega
  · rw [if_neg c, if_pos (by decide)]
    simp only [Bool.not_eq_true] at c
    rw [c]
    exact ⟨_, _, _, _, _, _, rfl⟩
theorem any_f (A : List KV) : slices_ContainsFunc_36.f A () = some (A.any (fun x => decide (x.f1 = ww))) := by
  unfold slices_ContainsFunc_36.f
  refine anyM_eq fun x _ => ?_
  show some (x.f1.toList == ww.toList) = _
  congr 1
  rw [Bool.eq_iff_iff, beq_iff_eq, decide_eq_true_iff, tli]
theorem rdyE (kind n : Int) (A : List KV) (b : Bool) (hb : b = decide (kind = 1 ∨ kind = 3 ∨ kind = 5)) : Ev (fun q => ticket_Ready.j0 q n A kind b) (rdy kind n A) := by
  refine Ev.step (fun q => by apply ticket_Ready.j0.eq_2) ?_
  unfold rdy
  by_cases h : kind = 1 ∨ kind = 3 ∨ kind = 5
  · rw [if_pos h]
    refine ev_if (by rw [hb]; exact decide_eq_true h) (ev_now ?_)
    cases A <;> simp
    omega
  · rw [if_neg h]
    refine ev_ifn (by rw [hb]; simpa using h) ?_
    by_cases h2 : kind = 2
    · refine ev_if h2 ?_
      rw [if_pos h2]
      exact ev_c (any_f A) (ev_now rfl)
    · refine ev_ifn h2 ?_
      rw [if_neg h2]
      by_cases h4 : kind = 4
      · refine ev_if h4 ?_
        rw [if_pos h4]
        exact Ev.now _
      · refine ev_ifn h4 ?_
        rw [if_neg h4]
        exact Ev.now _
theorem ready_f (kind n : Int) {l : List KV} (h : l.length ≤ 1000) (k : ByteArray) : Ev (fun q => ticket_Ready.f q kind n l k) (ready kind n l k) := by
  obtain ⟨a, b, c, d, e, f, hf⟩ := find_f h k
  unfold ticket_Ready.f ready
  refine ev_c hf ?_
  by_cases hh : has k l = true
  · refine ev_if hh (ev_c (ahead_f h k) ?_)
    rw [hh, Bool.true_and]
    have ha : ahead k l = hd k (ord l) := by unfold ahead; rw [if_pos hh]
    rw [ha]
    by_cases h1 : kind = 1
    · exact ev_if h1 (rdyE _ _ _ _ (by simp [h1]))
    · refine ev_ifn h1 ?_
      by_cases h3 : kind = 3
      · exact ev_if h3 (rdyE _ _ _ _ (by simp [h3]))
      · refine ev_ifn h3 (rdyE _ _ _ _ ?_)
        rw [Bool.eq_iff_iff]
        simp [h1, h3]
  · refine ev_ifn hh (ev_now ?_)
    simp only [Bool.not_eq_true] at hh
    rw [hh, Bool.false_and]
theorem index_f (k : ByteArray) (q : List ByteArray) (hq : q.length ≤ 1000) (d : Nat) : ∀ i : Nat, q.length = i + d → ∃ r : Int, Ev (fun n => slices_Index_string_string.l0 n q k (q.length : Int) (i : Int)) r ∧ decide (r ≥ 0) = decide (k ∈ q.drop i) := by
  induction d with
  | zero =>
    intro i hd
    refine ⟨-1, Ev.step (fun n => by apply slices_Index_string_string.l0.eq_2) (ev_ifn (by omega) (Ev.now _)), ?_⟩
    rw [List.drop_of_length_le (by omega)]
    simp
  | succ d ih =>
    intro i hd
    have hlt : i < q.length := by omega
    obtain ⟨r, h1, h2⟩ := ih (i + 1) (by omega)
    rw [List.drop_eq_getElem_cons hlt]
    by_cases c : k = q[i]
    · refine ⟨i, Ev.step (fun n => by apply slices_Index_string_string.l0.eq_2) (ev_if (by omega) (ev_if (by omega) (ev_if (by omega) (ev_if ?_ (Ev.now _))))), ?_⟩
      · rw [rdb hlt, ← c]
      · simp [← c]
    · refine ⟨r, Ev.step (fun n => by apply slices_Index_string_string.l0.eq_2) (ev_if (by omega) (ev_if (by omega) (ev_if (by omega) (ev_ifn ?_ ?_)))), ?_⟩
      · rw [rdb hlt]
        exact fun e => c (tli.1 e)
      · rw [nx (by omega)]
        exact h1
      · rw [h2, decide_eq_decide, List.mem_cons]
        exact ⟨Or.inr, fun h => h.resolve_left c⟩
theorem contains_f (k : ByteArray) {q : List ByteArray} (hq : q.length ≤ 1000) : Ev (fun n => slices_Contains_string_string.f n q k) (decide (k ∈ q)) := by
  unfold slices_Contains_string_string.f slices_Index_string_string.f
  obtain ⟨r, h1, h2⟩ := index_f k q hq q.length 0 (by omega)
  refine ev_b h1 (ev_now ?_)
  rw [h2]
  simp
theorem hstep_len (R : ByteArray → Bool) (q : List ByteArray) (x : KV) : (hstep R q x).length ≤ q.length + 1 := by
  unfold hstep
  split
  · omega
  · split
    · simp
    · omega
theorem hfold_len (R : ByteArray → Bool) : ∀ (s : List KV) (q : List ByteArray), (hfold R s q).length ≤ q.length + s.length
  | [], q => by simp [hfold]
  | x :: s, q => by
    have h1 := hstep_len R q x
    have h2 := hfold_len R s (hstep R q x)
    show (hfold R s (hstep R q x)).length ≤ _
    simp only [List.length_cons]
    omega
theorem holders_len (kind n : Int) (l : List KV) : (holders kind n l).length ≤ l.length := by
  have := hfold_len (ready kind n l) (ord l) []
  rw [ord_len] at this
  simpa [holders] using this
theorem holders_l (kind n : Int) {l : List KV} (h : l.length ≤ 1000) (s : List KV) (hs : s.length ≤ 1000) (d : Nat) : ∀ (i : Nat) (q : List ByteArray), s.length = i + d → q.length ≤ i → Ev (fun r => ticket_Holders.l0 r kind n l q s (s.length : Int) (i : Int)) (hfold (ready kind n l) (s.drop i) q) := by
  induction d with
  | zero =>
    intro i q hd hq
    refine Ev.step (fun r => by apply ticket_Holders.l0.eq_2) (ev_ifn (by omega) (ev_now ?_))
    rw [List.drop_of_length_le (by omega)]
    rfl
  | succ d ih =>
    intro i q hd hq
    have hlt : i < s.length := by omega
    rw [List.drop_eq_getElem_cons hlt]
    show Ev _ (hfold (ready kind n l) (s.drop (i + 1)) (hstep (ready kind n l) q s[i]))
    refine Ev.step (fun r => by apply ticket_Holders.l0.eq_2) (ev_if (by omega) (ev_if (by omega) (ev_if (by omega) ?_)))
    rw [rd hlt, nx (by omega)]
    unfold hstep
    refine ev_b (contains_f s[i].f0 (by omega)) ?_
    by_cases c : s[i].f0 ∈ q
    · rw [if_pos c]
      exact ev_if (decide_eq_true c) (ih (i + 1) q (by omega) (by omega))
    · rw [if_neg c]
      refine ev_ifn (by simpa using c) (ev_b (ready_f kind n h s[i].f0) ?_)
      by_cases c2 : ready kind n l s[i].f0 = true
      · rw [if_pos c2]
        exact ev_if c2 (ev_if (by omega) (ih (i + 1) _ (by omega) (by simp; omega)))
      · rw [if_neg c2]
        exact ev_ifn c2 (ih (i + 1) q (by omega) (by omega))
theorem holders_f (kind n : Int) {l : List KV} (h : l.length ≤ 1000) : Ev (fun r => ticket_Holders.f r kind n l) (holders kind n l) := by
  unfold ticket_Holders.f
  refine ev_c (order_f h) ?_
  have := holders_l kind n h (ord l) (by rw [ord_len]; omega) (ord l).length 0 [] (by omega) (by simp)
  exact this
theorem live : Ev (fun k => batonlaw15_live.f k) true := Ev.of batonlaw15_live.mono (k := 30) (by decide +kernel)
end TicketF
end Go.Proofs.Ytjhfidafeeiogaa.PM
