/- The library's stable sort by a ticket's comparison, in plain Lean: what its printed functions come to. -/
import Derived.Test.YtaebmmjhokjdbaaPM10
import Derived.Test.YtaebmmjhokjdbaaPM9
import Derived.Test.YtaebmmjhokjdbaaPM8
import Derived.Test.YtaebmmjhokjdbaaSortT
namespace Go.Proofs.Ytaebmmjhokjdbaa.PM
open Go.RowKit Go.Proofs.YtaebmmjhokjdbaaW.PrintWords Go.Proofs.YtaebmmjhokjdbaaW.PrintLast Go.Proofs.YtaebmmjhokjdbaaW.PrintMore Go.Proofs.Ytaebmmjhokjdbaa.My
set_option linter.unusedVariables false
set_option maxHeartbeats 400000
namespace SortF
open SortT
abbrev KV := S26
def cmpL (a b : KV) : Int := if a.f2 < b.f2 then -1 else if a.f2 > b.f2 then 1 else Lib.compareBytes a.f0.data.toList b.f0.data.toList
def bf (a b : KV) : Bool := decide (cmpL a b < 0)
theorem cmp_f (a b : KV) : ticket_Order_1.f a.f0 a.f1 a.f2 a.f3 a.f4 a.f5 b.f0 b.f1 b.f2 b.f3 b.f4 b.f5 = some (cmpL a b) := rfl
theorem cb_iff : ∀ a b : List UInt8, Lib.compareBytes a b < 0 ↔ Op.bytesLess a b = true
  | [], [] => by simp [Lib.compareBytes, Op.bytesLess]
  | [], _ :: _ => by simp [Lib.compareBytes, Op.bytesLess]
  | _ :: _, [] => by simp [Lib.compareBytes, Op.bytesLess]
  | a :: x, b :: y => by
    have ih := cb_iff x y
    unfold Lib.compareBytes Op.bytesLess
    by_cases h : a < b
    · simp [h]
    · by_cases h2 : b < a
      · have h3 : (a == b) = false := by
          rw [beq_eq_false_iff_ne]
          rintro rfl
          exact h h2
        simp [h, h2, h3]
      · have h3 : a = b := by
          rw [UInt8.lt_iff_toNat_lt] at h h2
          exact UInt8.toNat_inj.1 (by omega)
        subst h3
        simp [h, ih]
theorem bf_iff (a b : KV) : bf a b = true ↔ a.f2 < b.f2 ∨ (a.f2 = b.f2 ∧ Op.bytesLess a.f0.data.toList b.f0.data.toList = true) := by
  unfold bf cmpL
  rw [decide_eq_true_eq, ← cb_iff]
  by_cases h : a.f2 < b.f2
  · simp [h]
  · by_cases h2 : a.f2 > b.f2
    · rw [if_neg h, if_pos h2]
      constructor
      · intro c; omega
      · rintro (c | c) <;> omega
    · rw [if_neg h, if_neg h2]
      constructor
      · exact fun c => .inr ⟨by omega, c⟩
      · rintro (c | c)
        · exact absurd c h
        · exact c.2
theorem less_trans : ∀ a b c : List UInt8, Op.bytesLess a b = true → Op.bytesLess b c = true → Op.bytesLess a c = true
  | _, [], _, h, _ => by cases ‹List UInt8› <;> simp [Op.bytesLess] at h
  | _, _ :: _, [], _, h => by simp [Op.bytesLess] at h
  | [], _ :: _, _ :: _, _, _ => rfl
  | x :: a, y :: b, z :: c, h1, h2 => by
    simp only [Op.bytesLess, Bool.or_eq_true, Bool.and_eq_true, decide_eq_true_eq, beq_iff_eq] at h1 h2 ⊢
    rcases h1 with h1 | ⟨rfl, h1⟩
    · rcases h2 with h2 | ⟨rfl, h2⟩
      · left
        rw [UInt8.lt_iff_toNat_lt] at h1 h2 ⊢
        omega
      · exact .inl h1
    · rcases h2 with h2 | ⟨rfl, h2⟩
      · exact .inl h2
      · exact .inr ⟨rfl, less_trans a b c h1 h2⟩
theorem not_less {a b : List UInt8} (h : ¬ Op.bytesLess a b = true) : Op.bytesLess b a = true ∨ b = a := by
  have e := less_or b a
  simp only [Bool.not_eq_true] at h
  rw [h] at e
  simpa using e
theorem sw : SW bf where
  asym := by
    intro a b h c
    rw [bf_iff] at h c
    rcases h with h | ⟨h1, h2⟩
    · rcases c with c | ⟨c, _⟩ <;> omega
    · rcases c with c | ⟨_, c2⟩
      · omega
      · have e := less_or a.f0.data.toList b.f0.data.toList
        rw [h2, c2] at e
        simp at e
  tie := by
    intro a b c h1 h2 h3
    rw [bf_iff] at h1 h2 h3
    have e1 : b.f2 ≤ a.f2 := by
      apply Decidable.byContradiction
      intro q
      exact h1 (.inl (by omega))
    have e2 : c.f2 ≤ b.f2 := by
      apply Decidable.byContradiction
      intro q
      exact h2 (.inl (by omega))
    rcases h3 with h3 | ⟨h3, h4⟩
    · omega
    · have n1 : ¬ Op.bytesLess a.f0.data.toList b.f0.data.toList = true := fun q => h1 (.inr ⟨by omega, q⟩)
      have n2 : ¬ Op.bytesLess b.f0.data.toList c.f0.data.toList = true := fun q => h2 (.inr ⟨by omega, q⟩)
      rcases not_less n2 with q | q
      · exact n1 (less_trans _ _ _ h4 q)
      · rw [q] at h4
        exact n1 h4
theorem rdA (p : List KV) (x : KV) (q : List KV) {i : Int} (h : i = (p.length : Int)) : rd_T26 (p ++ x :: q) i = x := by
  subst h
  simp [rd_T26]
theorem setA (p : List KV) (x y : KV) (q : List KV) {i : Nat} (h : i = p.length) : (p ++ x :: q).set i y = p ++ y :: q := by
  subst h
  simp
theorem sm {n : Int} (h0 : 0 ≤ n) (h1 : n ≤ 100000) : wrap64 n = n := w64 (by omega) (by omega)
theorem smE {n m : Int} (e : n = m) (h0 : 0 ≤ m) (h1 : m ≤ 100000) : wrap64 n = m := by rw [e]; exact sm h0 h1
/-! insertion -/
theorem ins_l1 {b i0 : Int} {P : List KV} {R : List KV} (n : Nat) : ∀ (A Q : List KV) (x : KV), A.length = n → srt bf A → P.length + A.length + Q.length ≤ 2000 → 0 ≤ i0 → i0 ≤ 3000 →
    Ev (fun k => api_KV_69.l0 k (P ++ (ins bf x A ++ Q)) (P.length : Int) b (i0 + 1)) R →
    Ev (fun k => api_KV_69.l1 k (P ++ (A ++ x :: Q)) (P.length : Int) b i0 ((P.length + A.length : Nat) : Int)) R := by
  induction n with
  | zero =>
    intro A Q x hn hs hb h0 h1 hR
    obtain rfl : A = [] := List.length_eq_zero_iff.1 hn
    refine Ev.step (fun k => by apply api_KV_69.l1.eq_2) (ev_ifn (by simp) ?_)
    rw [w64 (by omega) (by omega)]
    exact hR
  | succ n ih =>
    intro A Q x hn hs hb h0 h1 hR
    rcases List.eq_nil_or_concat A with rfl | ⟨A', y, rfl⟩
    · simp at hn
    simp only [List.concat_eq_append] at hn hs hb hR ⊢
    have hl : A'.length = n := by simpa using hn
    have e1 : ((P.length + (A' ++ [y]).length : Nat) : Int) = ((P.length + A'.length + 1 : Nat) : Int) := by simp; omega
    have e2 : wrap64 (((P.length + A'.length + 1 : Nat) : Int) - 1) = ((P.length + A'.length : Nat) : Int) := by rw [w64 (by omega) (by omega)]; omega
    have e3 : P ++ (A' ++ [y] ++ x :: Q) = (P ++ A' ++ [y]) ++ x :: Q := by simp
    have e4 : P ++ (A' ++ [y] ++ x :: Q) = (P ++ A') ++ y :: (x :: Q) := by simp
    have r1 : rd_T26 (P ++ (A' ++ [y] ++ x :: Q)) ((P.length + A'.length + 1 : Nat) : Int) = x := by rw [e3]; exact rdA _ _ _ (by simp; omega)
    have r2 : rd_T26 (P ++ (A' ++ [y] ++ x :: Q)) ((P.length + A'.length : Nat) : Int) = y := by rw [e4]; exact rdA _ _ _ (by simp)
    have ll : (P ++ (A' ++ [y] ++ x :: Q)).length = P.length + A'.length + Q.length + 2 := by simp; omega
    simp only [List.length_append, List.length_cons, List.length_nil] at hb
    rw [e1]
    refine Ev.step (fun k => by apply api_KV_69.l1.eq_2) (ev_if (by omega) (ev_if (by omega) (ev_if (by rw [ll]; omega) ?_)))
    rw [e2, r1, r2]
    refine ev_if (by omega) (ev_if (by rw [ll]; omega) (ev_c (cmp_f x y) ?_))
    by_cases c : cmpL x y < 0
    · have cb : bf x y = true := decide_eq_true c
      refine ev_if c ?_
      have s1 : ((P ++ (A' ++ [y] ++ x :: Q)).set ((P.length + A'.length + 1 : Nat) : Int).toNat y).set ((P.length + A'.length : Nat) : Int).toNat x = P ++ (A' ++ x :: (y :: Q)) := by
        rw [e3, setA _ _ _ _ (by simp; omega), show (P ++ A' ++ [y]) ++ y :: Q = (P ++ A') ++ y :: (y :: Q) by simp, setA _ _ _ _ (by rw [Int.toNat_natCast, List.length_append])]
        simp
      show Ev (fun k => api_KV_69.l1 k (((P ++ (A' ++ [y] ++ x :: Q)).set ((P.length + A'.length + 1 : Nat) : Int).toNat y).set ((P.length + A'.length : Nat) : Int).toNat x) _ _ _ _) _
      rw [s1]
      refine ih A' (y :: Q) x hl (List.pairwise_append.1 hs).1 (by simp; omega) h0 h1 ?_
      rw [ins_ahead (q := [y]) (by simpa using cb)] at hR
      simpa using hR
    · have cb : ¬ bf x y = true := by unfold bf; simpa using c
      refine ev_ifn c ?_
      rw [w64 (by omega) (by omega)]
      have hq : ∀ z ∈ A' ++ [y], ¬ bf x z = true := by
        intro z hz
        rcases List.mem_append.1 hz with hz | hz
        · exact sw.tie x y z cb ((List.pairwise_append.1 hs).2.2 z hz y (by simp))
        · rw [List.mem_singleton.1 hz]; exact cb
      have hi := ins_behind (q := []) hq
      rw [List.append_nil] at hi
      rw [hi] at hR
      have e5 : P ++ (A' ++ [y] ++ ins bf x [] ++ Q) = P ++ (A' ++ [y] ++ x :: Q) := by simp [ins]
      rw [e5] at hR
      exact hR
theorem ins_l0 {P : List KV} {b : Int} : ∀ (B A Q : List KV), srt bf A → b = ((P.length + A.length + B.length : Nat) : Int) → P.length + A.length + B.length + Q.length ≤ 2000 →
    Ev (fun k => api_KV_69.l0 k (P ++ (A ++ (B ++ Q))) (P.length : Int) b ((P.length + A.length : Nat) : Int)) (P ++ (mrg bf A B ++ Q))
  | [], A, Q, hs, hb, hl => Ev.step (fun k => by apply api_KV_69.l0.eq_2) (ev_ifn (by simp only [List.length_nil] at hb; omega) (ev_now rfl))
  | x :: B, A, Q, hs, hb, hl => by
    simp only [List.length_cons] at hb hl
    refine Ev.step (fun k => by apply api_KV_69.l0.eq_2) (ev_if (by omega) ?_)
    have hk := ins_l0 (P := P) (b := b) B (ins bf x A) Q (ins_srt sw x hs) (by rw [ins_len]; omega) (by rw [ins_len]; omega)
    refine ins_l1 A.length A (B ++ Q) x rfl hs (by simp; omega) (by omega) (by omega) ?_
    rw [ins_len] at hk
    rw [mrg_cons]
    have e : ((P.length + A.length : Nat) : Int) + 1 = ((P.length + (A.length + 1) : Nat) : Int) := by omega
    rw [e]
    exact hk
/-- insertionSort of a part puts that part in order. -/
theorem ins_f (P S Q : List KV) (hl : P.length + S.length + Q.length ≤ 2000) : Ev (fun k => api_KV_69.f k (P ++ (S ++ Q)) (P.length : Int) ((P.length + S.length : Nat) : Int) ()) (P ++ (tsort bf S ++ Q)) := by
  unfold api_KV_69.f
  rw [w64 (by omega) (by omega)]
  cases S with
  | nil => exact Ev.step (fun k => by apply api_KV_69.l0.eq_2) (ev_ifn (by simp only [List.length_nil]; omega) (ev_now rfl))
  | cons x S =>
    simp only [List.length_cons] at hl
    have := ins_l0 (P := P) (b := ((P.length + (x :: S).length : Nat) : Int)) S [x] Q (by simp [srt]) (by simp; omega) (by simp; omega)
    exact this
/-- The library's stable sort of at most 20. -/
theorem sort_f {l : List KV} (hl : l.length ≤ 20) : Ev (fun k => api_KV_46.f k l ()) (tsort bf l) := by
  unfold api_KV_46.f api_KV_60.f
  refine ev_b (b := tsort bf l) ?_ (ev_now rfl)
  have h1 := ins_f [] l [] (by simp only [List.length_nil]; omega)
  simp only [List.nil_append, List.append_nil, List.length_nil, Nat.zero_add] at h1
  have e1 : api_KV_60.l1 = api_KV_60.l1 := rfl
  have hend : ∀ q : List KV, Ev (fun k => api_KV_60.l1 k q (l.length : Int) () 20) q := fun q => by
    refine Ev.step (fun k => by apply api_KV_60.l1.eq_2) ?_
    exact ev_ifn (by omega) (ev_now rfl)
  refine Ev.step (fun k => by apply api_KV_60.l0.eq_2) ?_
  by_cases c : l.length = 20
  · refine ev_if (by omega) ?_
    rw [c] at h1
    refine ev_b h1 ?_
    refine Ev.step (fun k => by apply api_KV_60.l0.eq_2) ?_
    refine ev_ifn (by rw [w64 (by omega) (by omega)]; omega) ?_
    have hn := tsort_len (lt := bf) l
    have h2 := ins_f (tsort bf l) [] [] (by simp only [List.length_nil]; omega)
    simp only [List.append_nil, List.length_nil, Nat.add_zero] at h2
    rw [hn, c] at h2
    rw [show tsort bf ([] : List KV) = [] from rfl, List.append_nil] at h2
    refine ev_b (b := tsort bf l) ?_ (hend _)
    rw [c]
    exact h2
  · refine ev_ifn (by omega) ?_
    exact ev_b h1 (hend _)
end SortF
end Go.Proofs.Ytaebmmjhokjdbaa.PM
