/- What is followed, in plain Lean: the heads that are seen, revision by revision; the terms. -/
import Derived.Test.YtaebmmjhokjdbaaOrd
import Derived.Test.YtaebmmjhokjdbaaHistRef
namespace Go.Proofs.Ytaebmmjhokjdbaa.PM
open Go.RowKit Go.Proofs.YtaebmmjhokjdbaaW.PrintWords Go.Proofs.YtaebmmjhokjdbaaW.PrintLast Go.Proofs.YtaebmmjhokjdbaaW.PrintMore Go.Proofs.Ytaebmmjhokjdbaa.My
set_option linter.unusedVariables false
namespace ElectF
abbrev KV := S26
abbrev EV := S54
def one1 (l : List KV) (e : EV) : List KV := if e.f1 = true then Hist.take e.f2.f0 l else Hist.lay e.f2 l
def view (l : List KV) (es : List EV) : List KV := es.foldl one1 l
theorem view_nil (l : List KV) : view l [] = l := rfl
theorem view_cons (l : List KV) (e : EV) (es : List EV) : view l (e :: es) = view (one1 l e) es := rfl
theorem view_append (l : List KV) (a b : List EV) : view l (a ++ b) = view (view l a) b := by unfold view; rw [List.foldl_append]
theorem one1_fold (l : List KV) (e : EV) : Hist.fold e.f0 l [e] = one1 l e := by
  unfold Hist.fold
  show Hist.step e.f0 l e = _
  unfold Hist.step one1
  rw [if_neg (by omega)]
theorem one1_len (l : List KV) (e : EV) : (one1 l e).length ≤ l.length + 1 := by
  rw [← one1_fold]
  have := Hist.fold_len e.f0 [e] l
  simpa using this
theorem view_len : ∀ (es : List EV) (l : List KV), (view l es).length ≤ l.length + es.length
  | [], l => by simp [view_nil]
  | e :: es, l => by
    rw [view_cons]
    have h1 := view_len es (one1 l e)
    have h2 := one1_len l e
    simp only [List.length_cons]
    omega
/-- The head behind, if it is another one. -/
def seen1 (a b : List KV) : List KV := match hdo b with
  | none => []
  | some x => if hdo a = some x then [] else [x]
def isr (e : EV) (x : EV) : Bool := decide (x.f0 = e.f0)
theorem drop_le (p : EV → Bool) : ∀ es : List EV, (es.dropWhile p).length ≤ es.length
  | [] => Nat.le_refl _
  | e :: es => by
    rw [List.dropWhile_cons]
    have := drop_le p es
    split <;> simp only [List.length_cons] <;> omega
def fol (l : List KV) : List EV → List KV × List KV
  | [] => (l, [])
  | e :: es =>
    let l' := view l (e :: es.takeWhile (isr e))
    let r := fol l' (es.dropWhile (isr e))
    (r.1, seen1 l l' ++ r.2)
termination_by es => es.length
decreasing_by
  have := drop_le (isr e) es
  simp only [List.length_cons]
  omega
theorem fol_nil (l : List KV) : fol l [] = (l, []) := by rw [fol]
theorem fol_cons (l : List KV) (e : EV) (es : List EV) : fol l (e :: es) = ((fol (view l (e :: es.takeWhile (isr e))) (es.dropWhile (isr e))).1, seen1 l (view l (e :: es.takeWhile (isr e))) ++ (fol (view l (e :: es.takeWhile (isr e))) (es.dropWhile (isr e))).2) := by
  rw [fol]
theorem tw_dw (p : EV → Bool) (es : List EV) : es.takeWhile p ++ es.dropWhile p = es := List.takeWhile_append_dropWhile
/-- What becomes of the things. -/
theorem fol_view : ∀ (n : Nat) (es : List EV) (l : List KV), es.length ≤ n → (fol l es).1 = view l es
  | n, [], l, _ => by rw [fol_nil]; rfl
  | 0, e :: es, l, h => by simp at h
  | n + 1, e :: es, l, h => by
    rw [fol_cons]
    have := drop_le (isr e) es
    simp only [List.length_cons] at h
    show (fol (view l (e :: es.takeWhile (isr e))) (es.dropWhile (isr e))).1 = _
    rw [fol_view n _ _ (by omega), ← view_append, List.cons_append, tw_dw]
/-- Parts, cut between two revisions. -/
theorem fol_append : ∀ (n : Nat) (A B : List EV) (l : List KV), A.length ≤ n → (∀ a b, A.getLast? = some a → B.head? = some b → a.f0 ≠ b.f0) → fol l (A ++ B) = ((fol (fol l A).1 B).1, (fol l A).2 ++ (fol (fol l A).1 B).2)
  | n, [], B, l, _, _ => by rw [fol_nil]; rfl
  | 0, e :: es, B, l, h, _ => by simp at h
  | n + 1, e :: es, B, l, h, hb => by
    simp only [List.length_cons] at h
    have hd := drop_le (isr e) es
    rw [List.cons_append, fol_cons, fol_cons l e es]
    by_cases c : es.dropWhile (isr e) = []
    · have ht : es.takeWhile (isr e) = es := by have := tw_dw (isr e) es; rw [c, List.append_nil] at this; exact this
      have hall : ∀ x ∈ es, isr e x = true := by
        intro x hx
        rw [← ht] at hx
        exact List.all_eq_true.1 List.all_takeWhile x hx
      have hB : B.takeWhile (isr e) = [] ∧ B.dropWhile (isr e) = B := by
        cases B with
        | nil => exact ⟨rfl, rfl⟩
        | cons b B =>
          have hl : ∃ a, (e :: es).getLast? = some a ∧ a.f0 = e.f0 := by
            refine ⟨(e :: es).getLast (by simp), List.getLast?_eq_some_getLast _, ?_⟩
            have hm := List.getLast_mem (l := e :: es) (by simp)
            rcases List.mem_cons.1 hm with q | q
            · rw [q]
            · have := hall _ q
              unfold isr at this
              exact of_decide_eq_true this
          obtain ⟨a, h1, h2⟩ := hl
          have h3 := hb a b h1 rfl
          have hn : ¬ isr e b = true := by
            unfold isr
            intro q
            exact h3 (by rw [h2, of_decide_eq_true q])
          exact ⟨by rw [List.takeWhile_cons, if_neg hn], by rw [List.dropWhile_cons, if_neg hn]⟩
      have h1 : (es ++ B).takeWhile (isr e) = es := by
        rw [List.takeWhile_append_of_pos hall, hB.1, List.append_nil]
      have h2 : (es ++ B).dropWhile (isr e) = B := by
        rw [List.dropWhile_append_of_pos hall, hB.2]
      rw [h1, h2, c, ht, fol_nil]
      simp
    · have h1 : (es ++ B).takeWhile (isr e) = es.takeWhile (isr e) := by
        rw [List.takeWhile_append]
        split
        · rename_i q
          exfalso
          apply c
          have := tw_dw (isr e) es
          have hl := congrArg List.length this
          rw [List.length_append] at hl
          exact List.length_eq_zero_iff.1 (by omega)
        · rfl
      have h2 : (es ++ B).dropWhile (isr e) = es.dropWhile (isr e) ++ B := by
        rw [List.dropWhile_append]
        split
        · rename_i q
          exact absurd (List.isEmpty_iff.1 q) c
        · rfl
      have hg : (es.dropWhile (isr e)).getLast? = (e :: es).getLast? := by
        have := tw_dw (isr e) es
        conv => rhs; rw [← this, ← List.cons_append, List.getLast?_append]
        cases q : (es.dropWhile (isr e)).getLast? with
        | none => exact absurd (List.getLast?_eq_none_iff.1 q) c
        | some _ => rfl
      have ih := fol_append n (es.dropWhile (isr e)) B (view l (e :: es.takeWhile (isr e))) (by omega) (by rw [hg]; exact hb)
      rw [h1, h2, ih]
      simp
/-- Neighbours of one Create are one. -/
def cptF (p : Int) : List KV → List KV
  | [] => []
  | x :: l => if x.f2 = p then cptF p l else x :: cptF x.f2 l
def cpt : List KV → List KV
  | [] => []
  | x :: l => x :: cptF x.f2 l
def trm (l : List KV) : List Int := (cpt l).map (·.f2)
end ElectF
end Go.Proofs.Ytaebmmjhokjdbaa.PM
