/- Bags in plain Lean: what the printed functions of bag and of its reference come to. -/
import Derived.Test.YtfdfilgohcbgfaaPM9
import Derived.Test.YtfdfilgohcbgfaaPM10
import Derived.Test.YtfdfilgohcbgfaaPM8
import Derived.Test.YtfdfilgohcbgfaaPM6
import Derived.Test.YtfdfilgohcbgfaaPM11
import Derived.Test.YtfdfilgohcbgfaaPM12
import Derived.Test.YtfdfilgohcbgfaaMy
namespace Go.Proofs.Ytfdfilgohcbgfaa.PM
open Go.RowKit Go.Proofs.YtfdfilgohcbgfaaW.PrintWords Go.Proofs.YtfdfilgohcbgfaaW.PrintLast Go.Proofs.YtfdfilgohcbgfaaW.PrintMore Go.Proofs.Ytfdfilgohcbgfaa.My
set_option linter.unusedVariables false
namespace Bag
theorem few_f (l m : List S31) : batonlaw12_few.f l m = some (decide ((l.length : Int) ≤ 40) && decide ((m.length : Int) ≤ 40)) := by
  unfold batonlaw12_few.f
  by_cases h : (l.length : Int) ≤ 40
  · rw [if_pos h]; simp [h]
  · rw [if_neg h]; simp [h]
def odd (x : S31) : Bool := decide (x.f0 < 0 ∨ x.f0 > 5 ∨ x.f1 < 0 ∨ x.f1 > 5 ∨ x.f0 = x.f1 ∨ (x.f2.size : Int) > 4096)
theorem cont (l : List S31) : slices_ContainsFunc_24.f l () = some (l.any odd) := anyM_eq (fun _ _ => rfl)
theorem cat {l : List (List S31)} (h : l.flatten.length < 4398046511104) : api_Msg_25.f l = some l.flatten := if_pos h
def put (l m : List S31) : List S31 × Int := if m.any odd = true then (l, 1) else if (l.length : Int) + (m.length : Int) > 16 then (l, 4) else (l ++ m, 0)
theorem put_f {l m : List S31} (hl : l.length ≤ 1000) (hm : m.length ≤ 1000) : bag_Put.f l m = some (put l m) := by
  unfold bag_Put.f put
  rw [cont, Option.bind_some, w64 (by omega) (by omega)]
  split
  · rfl
  · split
    · rfl
    · rw [cat (by simp; omega)]
      simp
def may (l : List S31) : Bool := decide ((l.length : Int) ≤ 16) && !l.any odd
theorem may_f (l : List S31) : bag_May.f l = some (may l) := by
  unfold bag_May.f may
  rw [cont]
  by_cases h : (l.length : Int) ≤ 16
  · rw [if_pos h]; simp [h]
  · rw [if_neg h]; simp [h]
def take (l : List S31) (i : Int) : Int × Int × ByteArray × List S31 × Int :=
  if i < 0 ∨ i ≥ (l.length : Int) then (0, 0, ⟨#[]⟩, l, 5) else ((rd_T31 l i).f0, (rd_T31 l i).f1, (rd_T31 l i).f2, l.take i.toNat ++ l.drop (i.toNat + 1), 0)
theorem take_no {l : List S31} {i : Int} (h : i < 0 ∨ i ≥ (l.length : Int)) : take l i = (0, 0, ⟨#[]⟩, l, 5) := if_pos h
theorem take_in {l : List S31} {i : Nat} (h : i < l.length) : take l (i : Int) = (l[i].f0, l[i].f1, l[i].f2, l.take i ++ l.drop (i + 1), 0) := by
  unfold take
  rw [if_neg (by omega), Int.toNat_natCast, show rd_T31 l (i : Int) = l[i] by simp [rd_T31, List.getElem?_eq_getElem h]]
theorem take_f {l : List S31} (hl : l.length ≤ 1000) (i : Int) : bag_Take.f l i = some (take l i) := by
  unfold bag_Take.f
  by_cases h1 : i < 0
  · rw [if_pos h1, take_no (.inl h1)]
  rw [if_neg h1]
  by_cases h2 : i ≥ (l.length : Int)
  · rw [if_pos h2, take_no (.inr h2)]
  rw [if_neg h2, if_pos (by omega), if_pos (by omega), if_pos (by omega), w64 (by omega) (by omega), if_pos (by omega), if_pos (by omega), cat (by simp; omega)]
  unfold take
  rw [if_neg (by omega), show (i + 1).toNat = i.toNat + 1 by omega]
  simp
def copy (l : List S31) (i : Int) : List S31 × Int := if i < 0 ∨ i ≥ (l.length : Int) then (l, 5) else if (l.length : Int) ≥ 16 then (l, 4) else (l ++ [rd_T31 l i], 0)
theorem copy_j {l : List S31} (hl : l.length ≤ 1000) (i : Int) (h0 : 0 ≤ i) (h1 : i < (l.length : Int)) : Ev (fun k => bag_Copy.j0 k l i false) (copy l i) := by
  refine Ev.step (fun k => by apply bag_Copy.j0.eq_2) ?_
  refine ev_ifn (by simp) ?_
  by_cases h3 : (l.length : Int) ≥ 16
  · refine ev_if h3 (ev_now ?_)
    unfold copy
    rw [if_neg (by omega), if_pos h3]
  · refine ev_ifn h3 ?_
    rw [w64 (by omega) (by omega)]
    refine ev_if (by omega) (ev_if (by omega) (ev_if (by omega) ?_))
    have hlt : i.toNat < l.length := by omega
    have e : (l.take (i + 1).toNat).drop i.toNat = [rd_T31 l i] := by
      rw [show (i + 1).toNat = i.toNat + 1 by omega, List.take_succ_eq_append_getElem hlt, List.drop_append_of_le_length (by simp; omega), List.drop_of_length_le (by simp; omega)]
      simp [rd_T31, List.getElem?_eq_getElem hlt]
    rw [e]
    refine ev_c (cat (by simp; omega)) (ev_now ?_)
    unfold copy
    rw [if_neg (by omega), if_neg h3]
    simp
theorem copy_f {l : List S31} (hl : l.length ≤ 1000) (i : Int) : Ev (fun k => bag_Copy.f k l i) (copy l i) := by
  unfold bag_Copy.f
  by_cases h1 : i < 0
  · refine ev_if h1 ?_
    refine Ev.step (fun k => by apply bag_Copy.j0.eq_2) ?_
    refine ev_if rfl (ev_now ?_)
    unfold copy
    rw [if_pos (.inl h1)]
  · refine ev_ifn h1 ?_
    by_cases h2 : i ≥ (l.length : Int)
    · rw [show decide (i ≥ (l.length : Int)) = true by simpa using h2]
      refine Ev.step (fun k => by apply bag_Copy.j0.eq_2) ?_
      refine ev_if rfl (ev_now ?_)
      unfold copy
      rw [if_pos (.inr h2)]
    · rw [show decide (i ≥ (l.length : Int)) = false by simpa using h2]
      exact copy_j hl i (by omega) (by omega)
/-- The places, from i on, of the messages that go from a to b. -/
def btw (a b : Int) : List S31 → Nat → List Int
  | [], _ => []
  | x :: l, i => if x.f0 = a ∧ x.f1 = b then (i : Int) :: btw a b l (i + 1) else btw a b l (i + 1)
theorem btw_l (a b : Int) (l : List S31) (hl : l.length ≤ 1000) (d : Nat) : ∀ (i : Nat) (q : List Int), l.length = i + d → q.length ≤ i → Ev (fun k => bag_Between.l0 k a b q l (l.length : Int) (i : Int)) (q ++ btw a b (l.drop i) i) := by
  induction d with
  | zero =>
    intro i q hd hq
    refine Ev.step (fun k => by apply bag_Between.l0.eq_2) ?_
    refine ev_ifn (by omega) (ev_now ?_)
    rw [List.drop_of_length_le (by omega)]
    simp [btw]
  | succ d ih =>
    intro i q hd hq
    have hlt : i < l.length := by omega
    have e : rd_T31 l (i : Int) = l[i] := by simp [rd_T31, List.getElem?_eq_getElem hlt]
    have hi1 : wrap64 ((i : Int) + 1) = ((i + 1 : Nat) : Int) := by rw [w64 (by omega) (by omega)]; omega
    rw [List.drop_eq_getElem_cons hlt]
    refine Ev.step (fun k => by apply bag_Between.l0.eq_2) ?_
    refine ev_if (by omega) (ev_if (by omega) (ev_if (by omega) ?_))
    rw [e, hi1]
    refine ev_c (b := (l[i].f0, l[i].f1)) rfl ?_
    unfold btw
    by_cases c : l[i].f0 = a ∧ l[i].f1 = b
    · refine ev_if (by simpa using c) (ev_if (by omega) ?_)
      rw [if_pos c]
      have := ih (i + 1) (q ++ [(i : Int)]) (by omega) (by simp; omega)
      rw [List.append_assoc] at this
      exact this
    · refine ev_ifn (by simpa using c) ?_
      rw [if_neg c]
      exact ih (i + 1) q (by omega) (by omega)
theorem btw_f (a b : Int) {l : List S31} (hl : l.length ≤ 1000) : Ev (fun k => bag_Between.f k l a b) (btw a b l 0) := by
  have := btw_l a b l hl l.length 0 [] (by omega) (by simp)
  rw [List.nil_append, List.drop_zero] at this
  exact this
/-- Are two bags the same? -/
theorem eqMsg (x y : S31) : ((!(x.f0 == y.f0) || (!(x.f1 == y.f1) || (!(x.f2.toList == y.f2.toList)))) = true) ↔ ¬ (x.f0 = y.f0 ∧ x.f1 = y.f1 ∧ x.f2.toList = y.f2.toList) := by
  by_cases h0 : x.f0 = y.f0 <;> by_cases h1 : x.f1 = y.f1 <;> by_cases h2 : x.f2.toList = y.f2.toList <;> simp [h0, h1, h2]
theorem same_l (l : List S31) (hl : l.length ≤ 9223372036854775806) (d : Nat) : ∀ i : Nat, l.length = i + d → Ev (fun k => batonref12_Same.l0 k l l (i : Int)) true := by
  induction d with
  | zero =>
    intro i hd
    refine Ev.step (fun k => by apply batonref12_Same.l0.eq_2) ?_
    exact ev_ifn (by omega) (Ev.now _)
  | succ d ih =>
    intro i hd
    have hi1 : wrap64 ((i : Int) + 1) = ((i + 1 : Nat) : Int) := by rw [w64 (by omega) (by omega)]; omega
    refine Ev.step (fun k => by apply batonref12_Same.l0.eq_2) ?_
    refine ev_if (by omega) (ev_if (by omega) (ev_if (by omega) (ev_ifn (by simp) ?_)))
    rw [hi1]
    exact ih (i + 1) (by omega)
theorem same_f {l : List S31} (hl : l.length ≤ 2000) : Ev (fun k => batonref12_Same.f k l l) true := by
  unfold batonref12_Same.f
  refine ev_if rfl ?_
  exact same_l l (by omega) l.length 0 (by omega)
theorem one_f (x : S31) : batonref12_one.f x.f0 x.f1 x.f2 = some (!odd x) := by
  unfold batonref12_one.f odd
  repeat' split
  all_goals (congr 1; rw [Bool.eq_iff_iff]; simp only [Bool.not_eq_true', decide_eq_true_eq, decide_eq_false_iff_not, Bool.false_eq_true, false_iff]; omega)
theorem each_l (l : List S31) (hl : l.length ≤ 9223372036854775806) (d : Nat) : ∀ i : Nat, l.length = i + d → Ev (fun k => batonref12_each.l0 k l (i : Int)) (!(l.drop i).any odd) := by
  induction d with
  | zero =>
    intro i hd
    refine Ev.step (fun k => by apply batonref12_each.l0.eq_2) ?_
    refine ev_ifn (by omega) (ev_now ?_)
    rw [List.drop_of_length_le (by omega)]; rfl
  | succ d ih =>
    intro i hd
    have hlt : i < l.length := by omega
    have e : rd_T31 l (i : Int) = l[i] := by simp [rd_T31, List.getElem?_eq_getElem hlt]
    have hi1 : wrap64 ((i : Int) + 1) = ((i + 1 : Nat) : Int) := by rw [w64 (by omega) (by omega)]; omega
    rw [List.drop_eq_getElem_cons hlt, List.any_cons]
    refine Ev.step (fun k => by apply batonref12_each.l0.eq_2) ?_
    refine ev_if (by omega) (ev_if (by omega) ?_)
    rw [e, hi1]
    refine ev_c (one_f _) ?_
    by_cases c : odd l[i] = true
    · refine ev_ifn (by simp [c]) (ev_now ?_)
      simp [c]
    · refine ev_if (by simpa using c) ?_
      have := ih (i + 1) (by omega)
      rw [show odd l[i] = false by simpa using c, Bool.false_or]
      exact this
theorem each_f {l : List S31} (hl : l.length ≤ 1000) : Ev (fun k => batonref12_each.f k l) (!l.any odd) := each_l l (by omega) l.length 0 (by omega)
theorem may_ref {l : List S31} (hl : l.length ≤ 1000) : Ev (fun k => batonref12_May.f k l) (may l) := by
  unfold batonref12_May.f may
  by_cases h : (l.length : Int) ≤ 16
  · refine ev_if h (ev_b (each_f hl) (ev_now ?_))
    simp [h]
  · refine ev_ifn h (ev_now ?_)
    simp [h]
theorem put_ref {l m : List S31} (hl : l.length ≤ 1000) (hm : m.length ≤ 1000) : Ev (fun k => batonref12_Put.f k l m) (put l m) := by
  unfold batonref12_Put.f put
  refine ev_b (each_f hm) ?_
  by_cases c : m.any odd = true
  · refine ev_ifn (by simp [c]) (ev_now ?_)
    rw [if_pos c]
  · refine ev_if (by simpa using c) ?_
    rw [if_neg c, w64 (by omega) (by omega)]
    by_cases h : (l.length : Int) + (m.length : Int) > 16
    · refine ev_if h (ev_now ?_)
      rw [if_pos h]
    · refine ev_ifn h (ev_c rfl (ev_if (by simp; omega) (ev_c rfl (ev_if (by simp; omega) (ev_now ?_)))))
      rw [if_neg h]
      simp
theorem live : Ev (fun k => batonlaw12_live.f k) true := Ev.of (fun k => batonlaw12_live.mono k) (k := 20) (by decide +kernel)
end Bag
end Go.Proofs.Ytfdfilgohcbgfaa.PM
