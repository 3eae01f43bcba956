/- Tickets in plain Lean: what the printed functions of ticket come to. -/
import Derived.Test.YtaebmmjhokjdbaaPM11
import Derived.Test.YtaebmmjhokjdbaaPM3
import Derived.Test.YtaebmmjhokjdbaaPM28
import Derived.Test.YtaebmmjhokjdbaaSort
namespace Go.Proofs.Ytaebmmjhokjdbaa.PM
open Go.RowKit Go.Proofs.YtaebmmjhokjdbaaW.PrintWords Go.Proofs.YtaebmmjhokjdbaaW.PrintLast Go.Proofs.YtaebmmjhokjdbaaW.PrintMore Go.Proofs.Ytaebmmjhokjdbaa.My
set_option linter.unusedVariables false
namespace TicketF
open SortT SortF
theorem tl (s : ByteArray) : s.toList = s.data.toList := ByteArray.toList_eq s
theorem ext {a b : ByteArray} (h : a.data.toList = b.data.toList) : a = b := Go.WideShapes.bytes_inj h
theorem tli {a b : ByteArray} : a.toList = b.toList ↔ a = b := ⟨fun h => ext (by rw [← tl, ← tl, h]), fun h => by rw [h]⟩
theorem rd {l : List KV} {i : Nat} (h : i < l.length) : rd_T26 l (i : Int) = l[i] := by simp [rd_T26, List.getElem?_eq_getElem h]
theorem rdb {l : List ByteArray} {i : Nat} (h : i < l.length) : rdOf ByteArray.empty l (i : Int) = l[i] := by simp [rdOf, List.getElem?_eq_getElem h]
theorem nx {i : Nat} (h : i ≤ 2000) : wrap64 ((i : Int) + 1) = ((i + 1 : Nat) : Int) := by rw [w64 (by omega) (by omega)]; omega
def few (n : Int) (l : List KV) : Bool := decide ((l.length : Int) ≤ n) && l.all (fun x => decide (x.f0.size ≤ 60) && decide (x.f1.size ≤ 60))
theorem few_l (l : List KV) (hl : l.length ≤ 1000) (d : Nat) : ∀ i : Nat, l.length = i + d → Ev (fun n => batonref03_Few.l0 n l (i : Int)) ((l.drop i).all (fun x => decide (x.f0.size ≤ 60) && decide (x.f1.size ≤ 60))) := by
  induction d with
  | zero =>
    intro i hd
    refine Ev.step (fun n => by apply batonref03_Few.l0.eq_2) (ev_ifn (by omega) (ev_now ?_))
    rw [List.drop_of_length_le (by omega)]
    rfl
  | succ d ih =>
    intro i hd
    have hlt : i < l.length := by omega
    rw [List.drop_eq_getElem_cons hlt, List.all_cons]
    refine Ev.step (fun n => by apply batonref03_Few.l0.eq_2) (ev_if (by omega) (ev_if (by omega) ?_))
    rw [rd hlt, nx (by omega)]
    by_cases h : (l[i].f0.size : Int) > 60
    · refine ev_if h (ev_now ?_)
      rw [show decide (l[i].f0.size ≤ 60) = false from decide_eq_false (by omega)]; rfl
    · refine ev_ifn h ?_
      rw [show decide (l[i].f0.size ≤ 60) = true from decide_eq_true (by omega)]
      by_cases h2 : (l[i].f1.size : Int) > 60
      · refine ev_if h2 (ev_now ?_)
        rw [show decide (l[i].f1.size ≤ 60) = false from decide_eq_false (by omega)]; rfl
      · refine ev_ifn h2 ?_
        rw [show decide (l[i].f1.size ≤ 60) = true from decide_eq_true (by omega)]
        exact ih (i + 1) (by omega)
theorem few_f {n : Int} (hn : n ≤ 1000) (l : List KV) : Ev (fun k => batonref03_Few.f k l n) (few n l) := by
  unfold batonref03_Few.f few
  by_cases h : (l.length : Int) > n
  · refine ev_if h (ev_now ?_)
    rw [decide_eq_false (by omega)]; rfl
  · refine ev_ifn h ?_
    rw [decide_eq_true (by omega)]
    have := few_l l (by omega) l.length 0 (by omega)
    exact this
theorem kvs_l (l : List KV) (hl : l.length ≤ 1000) (d : Nat) : ∀ i : Nat, l.length = i + d → Ev (fun n => batonref03_KVs.l0 n l l (i : Int)) true := by
  induction d with
  | zero =>
    intro i hd
    exact Ev.step (fun n => by apply batonref03_KVs.l0.eq_2) (ev_ifn (by omega) (ev_now rfl))
  | succ d ih =>
    intro i hd
    refine Ev.step (fun n => by apply batonref03_KVs.l0.eq_2) (ev_if (by omega) (ev_if (by omega) (ev_if (by omega) ?_)))
    rw [nx (by omega)]
    exact ev_ifn (by simp) (ih (i + 1) (by omega))
theorem kvs_f {l m : List KV} (h : l = m) (hl : l.length ≤ 1000) : Ev (fun n => batonref03_KVs.f n l m) true := by
  subst h
  unfold batonref03_KVs.f
  exact ev_if rfl (kvs_l l hl l.length 0 (by omega))
theorem few_len {l : List KV} {n : Int} (h : few n l = true) : (l.length : Int) ≤ n := by
  unfold few at h
  simp only [Bool.and_eq_true, decide_eq_true_eq] at h
  exact h.1
/-! what lists come to -/
def ord (l : List KV) : List KV := tsort bf l
def has (k : ByteArray) (s : List KV) : Bool := s.any (fun x => decide (x.f0 = k))
instance memDec (k : ByteArray) (q : List ByteArray) : Decidable (k ∈ q) := @List.instDecidableMemOfLawfulBEq ByteArray instBEqOfDecidableEq inferInstance k q
def hd (k : ByteArray) (s : List KV) : List KV := s.takeWhile (fun x => !decide (x.f0 = k))
def ahead (k : ByteArray) (l : List KV) : List KV := if has k l = true then hd k (ord l) else []
def plc (k : ByteArray) (l : List KV) : Int := if has k l = true then ((hd k (ord l)).length : Int) else -1
def ww : ByteArray := ⟨#[119]⟩
def rr : ByteArray := ⟨#[114]⟩
def rdy (kind n : Int) (A : List KV) : Bool := if kind = 1 ∨ kind = 3 ∨ kind = 5 then A.isEmpty else if kind = 2 then !(A.any (fun x => decide (x.f1 = ww))) else if kind = 4 then decide ((A.length : Int) < n) else false
def ready (kind n : Int) (l : List KV) (k : ByteArray) : Bool := has k l && rdy kind n (hd k (ord l))
def hstep (R : ByteArray → Bool) (q : List ByteArray) (x : KV) : List ByteArray := if x.f0 ∈ q then q else if R x.f0 = true then q ++ [x.f0] else q
def hfold (R : ByteArray → Bool) (s : List KV) (q : List ByteArray) : List ByteArray := s.foldl (hstep R) q
def holders (kind n : Int) (l : List KV) : List ByteArray := hfold (ready kind n l) (ord l) []
theorem ord_len (l : List KV) : (ord l).length = l.length := tsort_len l
theorem ord_mem {l : List KV} {z : KV} : z ∈ ord l ↔ z ∈ l := by unfold ord tsort; rw [mrg_mem]; simp
theorem has_ord (k : ByteArray) (l : List KV) : has k (ord l) = has k l := by
  unfold has
  rw [Bool.eq_iff_iff, List.any_eq_true, List.any_eq_true]
  constructor
  · rintro ⟨x, h1, h2⟩
    exact ⟨x, ord_mem.1 h1, h2⟩
  · rintro ⟨x, h1, h2⟩
    exact ⟨x, ord_mem.2 h1, h2⟩
theorem order_f {l : List KV} (h : l.length ≤ 1000) : ticket_Order.f l = some (ord l) := by unfold ticket_Order.f; rw [if_pos h]; rfl
theorem hd_le (k : ByteArray) : ∀ s : List KV, (hd k s).length ≤ s.length
  | [] => Nat.le_refl _
  | x :: s => by
    have := hd_le k s
    unfold hd at this ⊢
    rw [List.takeWhile_cons]
    split
    · simp; omega
    · simp
theorem hd_take (k : ByteArray) : ∀ s : List KV, s.take (hd k s).length = hd k s
  | [] => rfl
  | x :: s => by
    have := hd_take k s
    unfold hd at this ⊢
    rw [List.takeWhile_cons]
    split
    · simp [this]
    · rfl
theorem plc_mx (k : ByteArray) (l : List KV) : mx 0 (plc k l) = ((ahead k l).length : Int) := by
  unfold plc ahead mx
  split
  · split <;> omega
  · rfl
theorem ahead_le (k : ByteArray) (l : List KV) : (ahead k l).length ≤ l.length := by
  unfold ahead
  split
  · have := hd_le k (ord l)
    rw [ord_len] at this
    exact this
  · simp
theorem ahead_take (k : ByteArray) (l : List KV) : (ord l).take (ahead k l).length = ahead k l := by
  unfold ahead
  split
  · exact hd_take k (ord l)
  · rfl
theorem hstep_len (R : ByteArray → Bool) (q : List ByteArray) (x : KV) : (hstep R q x).length ≤ q.length + 1 := by
  unfold hstep
  split
  · omega
  · split
    · simp
    · omega
theorem hfold_len (R : ByteArray → Bool) : ∀ (s : List KV) (q : List ByteArray), (hfold R s q).length ≤ q.length + s.length
  | [], q => by simp [hfold]
  | x :: s, q => by
    have h1 := hstep_len R q x
    have h2 := hfold_len R s (hstep R q x)
    show (hfold R s (hstep R q x)).length ≤ _
    simp only [List.length_cons]
    omega
theorem holders_len (kind n : Int) (l : List KV) : (holders kind n l).length ≤ l.length := by
  have := hfold_len (ready kind n l) (ord l) []
  rw [ord_len] at this
  simpa [holders] using this
end TicketF
end Go.Proofs.Ytaebmmjhokjdbaa.PM
