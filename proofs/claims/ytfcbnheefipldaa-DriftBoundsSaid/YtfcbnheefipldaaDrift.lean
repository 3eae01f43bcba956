/- Clocks in plain Lean: what the printed functions of drift and of its reference come to. -/
import Derived.Test.YtfcbnheefipldaaPM6
import Derived.Test.YtfcbnheefipldaaPM4
import Derived.Test.YtfcbnheefipldaaPM5
import Derived.Test.YtfcbnheefipldaaMy
namespace Go.Proofs.Ytfcbnheefipldaa.PM
open Go.RowKit Go.Proofs.YtfcbnheefipldaaW.PrintWords Go.Proofs.YtfcbnheefipldaaW.PrintLast Go.Proofs.YtfcbnheefipldaaW.PrintMore Go.Proofs.Ytfcbnheefipldaa.My
set_option linter.unusedVariables false
namespace Drift
def lo (st : Bool) : Int := if st then 15 else 0
def hi (st : Bool) : Int := if st then 17 else 64
def rt (st : Bool) (b : Int) : Int := if b < lo st then lo st else if b > hi st then hi st else b
theorem rt_bd (st : Bool) (b : Int) : lo st ≤ rt st b ∧ rt st b ≤ hi st := by
  unfold rt lo hi
  cases st <;> simp <;> split <;> (try split) <;> omega
theorem rt_bd64 (st : Bool) (b : Int) : 0 ≤ rt st b ∧ rt st b ≤ 64 := by
  have := rt_bd st b
  unfold lo hi at this
  cases st <;> simp at this <;> omega
theorem rate (b : Int) (st : Bool) : drift_Rate.f b st = some (rt st b) := by
  unfold drift_Rate.f drift_of.f drift_bounds_clamp.f rt lo hi mn mx
  cases st <;> simp <;> (repeat' split) <;> omega
theorem rate_ref (b : Int) (st : Bool) : Ev (fun k => batonref11_Rate.f k b st) (rt st b) := by
  have hj : ∀ p q : Int, p ≤ q → Ev (fun k => batonref11_Rate.j0 k b p q) (if b < p then p else if b > q then q else b) := by
    intro p q hpq
    refine Ev.step (fun k => by apply batonref11_Rate.j0.eq_2) ?_
    by_cases h1 : b < p
    · refine ev_if h1 (ev_now ?_)
      rw [if_pos h1]
    · refine ev_ifn h1 ?_
      by_cases h2 : b > q
      · refine ev_if h2 (ev_now ?_)
        rw [if_neg h1, if_pos h2]
      · refine ev_ifn h2 (ev_now ?_)
        rw [if_neg h1, if_neg h2]
  unfold batonref11_Rate.f rt lo hi
  cases st
  · exact ev_ifn (by simp) (hj 0 64 (by omega))
  · exact ev_if rfl (hj 15 17 (by omega))
def nx (st : Bool) (a b : Int) : Int := if a + rt st b > 1099511627775 then 1099511627775 else a + rt st b
theorem nx_bd {st : Bool} {a b : Int} (h0 : 0 ≤ a) (h1 : a ≤ 1099511627775) : a ≤ nx st a b ∧ nx st a b ≤ 1099511627775 := by
  have := rt_bd64 st b
  unfold nx
  split <;> omega
theorem step_eq {a : Int} (b : Int) (st : Bool) (h0 : 0 ≤ a) (h1 : a ≤ 1099511627775) : clockStep a b st = some (nx st a b) := by
  have := rt_bd64 st b
  unfold clockStep
  rw [rate]
  simp only [Option.bind_some]
  rw [w64 (by omega) (by omega)]
  unfold drift_bounds_clamp.f nx mn mx
  congr 1
  repeat' split
  all_goals (omega)
def run (st : Bool) (l : List Int) (a : Int) : Int := l.foldl (nx st) a
theorem run_bd {st : Bool} : ∀ {l : List Int} {a : Int}, 0 ≤ a → a ≤ 1099511627775 → a ≤ run st l a ∧ run st l a ≤ 1099511627775
  | [], a, _, h1 => ⟨Int.le_refl _, h1⟩
  | b :: l, a, h0, h1 => by
    have h := nx_bd (st := st) (b := b) h0 h1
    have h2 := run_bd (st := st) (l := l) (a := nx st a b) (by omega) h.2
    exact ⟨by show a ≤ run st l (nx st a b); omega, h2.2⟩
theorem clock_run (st : Bool) : ∀ (l : List Int) (a : Int), 0 ≤ a → a ≤ 1099511627775 → clockRun st l a = some (run st l a)
  | [], a, _, _ => rfl
  | b :: l, a, h0, h1 => by
    have h := nx_bd (st := st) (b := b) h0 h1
    rw [clockRun, step_eq b st h0 h1]
    exact clock_run st l _ (by omega) h.2
/-- Run, whatever it begins with. -/
def runs (from_ : Int) (l : List Int) (st : Bool) : Int := if from_ < 0 then from_ else if from_ > 1099511627775 then from_ else run st l from_
theorem run_eq (a : Int) (l : List Int) (st : Bool) : drift_Run.f a l st = some (runs a l st) := by
  unfold drift_Run.f runs
  split
  · rfl
  · split
    · rfl
    · exact clock_run st l a (by omega) (by omega)
theorem nx_hi {st : Bool} {a b : Int} (h : a + rt st b > 1099511627775) : nx st a b = 1099511627775 := if_pos h
theorem nx_lo {st : Bool} {a b : Int} (h : ¬ a + rt st b > 1099511627775) : nx st a b = a + rt st b := if_neg h
theorem run_nil (st : Bool) (a : Int) : run st [] a = a := rfl
theorem run_cons (st : Bool) (b : Int) (l : List Int) (a : Int) : run st (b :: l) a = run st l (nx st a b) := rfl
attribute [local irreducible] rt nx run
theorem run_ref_l0 (l : List Int) (st : Bool) (hl : l.length ≤ 9223372036854775807) (d : Nat) : ∀ (i : Nat) (a : Int), l.length = i + d → 0 ≤ a → a ≤ 1099511627775 → Ev (fun k => batonref11_Run.l0 k a l st (i : Int)) (run st (l.drop i) a) := by
  induction d with
  | zero =>
    intro i a hd h0 h1
    refine Ev.step (fun k => by apply batonref11_Run.l0.eq_2) ?_
    refine ev_ifn (by omega) (ev_now ?_)
    rw [List.drop_of_length_le (by omega), run_nil]
  | succ d ih =>
    intro i a hd h0 h1
    have hlt : i < l.length := by omega
    have e : rd l (i : Int) = l[i] := by simp [rd, List.getElem?_eq_getElem hlt]
    have hr := rt_bd64 st l[i]
    have hn := nx_bd (st := st) (b := l[i]) h0 h1
    have hw : wrap64 (a + rt st l[i]) = a + rt st l[i] := w64 (by omega) (by omega)
    have hi1 : wrap64 ((i : Int) + 1) = ((i + 1 : Nat) : Int) := by rw [w64 (by omega) (by omega)]; omega
    have ih' := ih (i + 1) (nx st a l[i]) (by rw [hd]; omega) (by omega) hn.2
    have hd' : run st (l.drop i) a = run st (l.drop (i + 1)) (nx st a l[i]) := by rw [List.drop_eq_getElem_cons hlt, run_cons]
    rw [hd']
    refine Ev.step (fun k => by apply batonref11_Run.l0.eq_2) ?_
    refine ev_if (by omega) (ev_if (by omega) ?_)
    refine ev_b (rate_ref _ _) ?_
    rw [e, hw, hi1]
    by_cases hb : a + rt st l[i] > 1099511627775
    · refine ev_if (by exact hb) ?_
      have hm : nx st a l[i] = 1099511627775 := nx_hi hb
      rw [hm] at ih' ⊢
      exact ih'
    · refine ev_ifn (by exact hb) ?_
      have hm : nx st a l[i] = a + rt st l[i] := nx_lo hb
      rw [hm] at ih' ⊢
      exact ih'
theorem run_ref (a : Int) (l : List Int) (st : Bool) (hl : l.length ≤ 9223372036854775807) : Ev (fun k => batonref11_Run.f k a l st) (runs a l st) := by
  unfold batonref11_Run.f runs
  by_cases h1 : a < 0
  · refine ev_if h1 ?_
    refine Ev.step (fun k => by apply batonref11_Run.j0.eq_2) ?_
    refine ev_if rfl (ev_now ?_)
    rw [if_pos h1]
  · refine ev_ifn h1 ?_
    refine Ev.step (fun k => by apply batonref11_Run.j0.eq_2) ?_
    by_cases h2 : a > 1099511627775
    · refine ev_if (by simpa using h2) (ev_now ?_)
      rw [if_neg h1, if_pos h2]
    · refine ev_ifn (by simpa using h2) ?_
      rw [if_neg h1, if_neg h2]
      have := run_ref_l0 l st hl l.length 0 a (by omega) (by omega) (by omega)
      rw [List.drop_zero] at this
      exact this
theorem safe_eq (t : Int) : batonref11_Safe.f t = drift_Safe.f t := by unfold batonref11_Safe.f drift_Safe.f; rw [Int.mul_comm]
def safe (t : Int) : Int := if t < 1 then 0 else if t > 1000 then 0 else t * 15 / 17
theorem safe_f (t : Int) : drift_Safe.f t = some (safe t) := by
  unfold drift_Safe.f safe
  split
  · rfl
  · split
    · rfl
    · congr 1
      rw [w64 (n := t * 15) (by omega) (by omega), Int.tdiv_eq_ediv_of_nonneg (by omega), w64 (by omega) (by omega)]
/-- Do two strict clocks fit, from where they are on? -/
def cf (ttl s : Int) : List Int → List Int → Int → Int → Bool
  | a :: l, b :: m, x, y => if nx true x a < s ∧ nx true y b ≥ ttl then false else cf ttl s l m (nx true x a) (nx true y b)
  | _, _, _, _ => true
theorem cf_eq (ttl s : Int) : ∀ (l m : List Int) (x y : Int), 0 ≤ x → x ≤ 1099511627775 → 0 ≤ y → y ≤ 1099511627775 → clockFits ttl s l m x y = some (cf ttl s l m x y)
  | a :: l, b :: m, x, y, h0, h1, h2, h3 => by
    have ha := nx_bd (st := true) (b := a) h0 h1
    have hb := nx_bd (st := true) (b := b) h2 h3
    have ih := cf_eq ttl s l m (nx true x a) (nx true y b) (by omega) ha.2 (by omega) hb.2
    rw [clockFits, step_eq a true h0 h1, step_eq b true h2 h3, cf]
    simp only [Option.bind_some]
    by_cases c1 : nx true x a < s
    · rw [if_pos c1]
      by_cases c2 : nx true y b ≥ ttl
      · rw [if_pos c2, if_pos ⟨c1, c2⟩]
      · rw [if_neg c2, if_neg (fun h => c2 h.2)]
        exact ih
    · rw [if_neg c1, if_neg (fun h => c1 h.1)]
      exact ih
  | [], _, _, _, _, _, _, _ => rfl
  | _ :: _, [], _, _, _, _, _, _ => rfl
theorem fits_eq (ttl : Int) (l m : List Int) : drift_Fits.f ttl l m = some (if safe ttl = 0 then false else cf ttl (safe ttl) l m 0 0) := by
  unfold drift_Fits.f
  rw [safe_f]
  simp only [Option.bind_some]
  split
  · rfl
  · exact cf_eq ttl _ l m 0 0 (by omega) (by omega) (by omega) (by omega)
attribute [local semireducible] rt nx run
theorem live : batonlaw11_live.f = some true := by
  unfold batonlaw11_live.f
  simp only [rate, run_eq, safe_f, fits_eq, drift_Span.f]
  decide +kernel
end Drift
end Go.Proofs.Ytfcbnheefipldaa.PM
