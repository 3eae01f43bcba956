/- Lists put in order, each thing behind those that it does not stand ahead of: insertion, merging, and why parts may be merged. -/
import Derived.Test.YtaebmmjhokjdbaaMy
namespace Go.Proofs.Ytaebmmjhokjdbaa.PM
set_option linter.unusedVariables false
namespace SortT
variable {α : Type} {lt : α → α → Bool}
/-- A strict order whose ties are ties throughout. -/
structure SW (lt : α → α → Bool) : Prop where
  asym : ∀ a b, lt a b = true → ¬ lt b a = true
  tie : ∀ a b c, ¬ lt a b = true → ¬ lt b c = true → ¬ lt a c = true
theorem SW.irrefl (h : SW lt) (a : α) : ¬ lt a a = true := fun c => h.asym a a c c
/-- a < b, not c < b: a < c. -/
theorem SW.lt_of (h : SW lt) {a b c : α} (h1 : lt a b = true) (h2 : ¬ lt c b = true) : lt a c = true := by
  apply Decidable.byContradiction
  intro hn
  exact h.tie a c b hn h2 h1
/-- not b < a, b < c: a < c. -/
theorem SW.lt_of' (h : SW lt) {a b c : α} (h1 : ¬ lt b a = true) (h2 : lt b c = true) : lt a c = true := by
  apply Decidable.byContradiction
  intro hn
  exact h.tie b a c h1 hn h2
def ins (lt : α → α → Bool) (x : α) : List α → List α
  | [] => [x]
  | y :: l => if lt x y = true then x :: y :: l else y :: ins lt x l
def mrg (lt : α → α → Bool) (a b : List α) : List α := b.foldl (fun q x => ins lt x q) a
def tsort (lt : α → α → Bool) (l : List α) : List α := mrg lt [] l
def srt (lt : α → α → Bool) (l : List α) : Prop := l.Pairwise (fun x y => ¬ lt y x = true)
theorem ins_cons (x y : α) (l : List α) : ins lt x (y :: l) = if lt x y = true then x :: y :: l else y :: ins lt x l := rfl
theorem mrg_nil (a : List α) : mrg lt a [] = a := rfl
theorem mrg_cons (a : List α) (x : α) (b : List α) : mrg lt a (x :: b) = mrg lt (ins lt x a) b := rfl
theorem mrg_append (a b c : List α) : mrg lt a (b ++ c) = mrg lt (mrg lt a b) c := by unfold mrg; rw [List.foldl_append]
theorem ins_len (x : α) : ∀ l : List α, (ins lt x l).length = l.length + 1
  | [] => rfl
  | y :: l => by
    rw [ins_cons]
    split
    · simp
    · simp [ins_len x l]
theorem mrg_len : ∀ (b a : List α), (mrg lt a b).length = a.length + b.length
  | [], a => rfl
  | x :: b, a => by rw [mrg_cons, mrg_len b, ins_len]; simp; omega
theorem ins_mem {x z : α} : ∀ {l : List α}, z ∈ ins lt x l ↔ z = x ∨ z ∈ l
  | [] => by simp [ins]
  | y :: l => by
    rw [ins_cons]
    split
    · simp
    · rw [List.mem_cons, ins_mem, List.mem_cons]
      constructor
      · rintro (h | h | h)
        · exact .inr (.inl h)
        · exact .inl h
        · exact .inr (.inr h)
      · rintro (h | h | h)
        · exact .inr (.inl h)
        · exact .inl h
        · exact .inr (.inr h)
theorem mrg_mem {z : α} : ∀ {b a : List α}, z ∈ mrg lt a b ↔ z ∈ a ∨ z ∈ b
  | [], a => by simp [mrg_nil]
  | x :: b, a => by
    rw [mrg_cons, mrg_mem, ins_mem, List.mem_cons]
    constructor
    · rintro ((h | h) | h)
      · exact .inr (.inl h)
      · exact .inl h
      · exact .inr (.inr h)
    · rintro (h | h | h)
      · exact .inl (.inr h)
      · exact .inl (.inl h)
      · exact .inr h
theorem srt_cons {x : α} {l : List α} : srt lt (x :: l) ↔ (∀ y ∈ l, ¬ lt y x = true) ∧ srt lt l := List.pairwise_cons
theorem ins_srt (h : SW lt) (x : α) : ∀ {l : List α}, srt lt l → srt lt (ins lt x l)
  | [], _ => by simp [ins, srt]
  | y :: l, hs => by
    have hc := srt_cons.1 hs
    rw [ins_cons]
    split
    · rename_i c
      rw [srt_cons]
      refine ⟨fun z hz => ?_, hs⟩
      rcases List.mem_cons.1 hz with rfl | hz
      · exact h.asym _ _ c
      · exact fun q => h.tie z y x (hc.1 z hz) (h.asym _ _ c) q
    · rename_i c
      rw [srt_cons]
      refine ⟨fun z hz => ?_, ins_srt h x hc.2⟩
      rcases ins_mem.1 hz with rfl | hz
      · exact c
      · exact hc.1 z hz
theorem mrg_srt (h : SW lt) : ∀ {b a : List α}, srt lt a → srt lt (mrg lt a b)
  | [], a, hs => hs
  | x :: b, a, hs => by rw [mrg_cons]; exact mrg_srt h (ins_srt h x hs)
theorem tsort_srt (h : SW lt) (l : List α) : srt lt (tsort lt l) := mrg_srt h (by simp [srt])
/-- It goes behind all that it does not stand ahead of. -/
theorem ins_behind {y : α} : ∀ {p q : List α}, (∀ z ∈ p, ¬ lt y z = true) → ins lt y (p ++ q) = p ++ ins lt y q
  | [], q, _ => rfl
  | z :: p, q, h => by
    rw [List.cons_append, ins_cons, if_neg (h z (by simp)), ins_behind (fun w hw => h w (by simp [hw]))]
    rfl
/-- It stays ahead of what begins with a thing that it stands ahead of. -/
theorem ins_ahead {y : α} {q : List α} (hq : ∀ z ∈ q, lt y z = true) : ∀ p : List α, ins lt y (p ++ q) = ins lt y p ++ q
  | [] => by
    cases q with
    | nil => rfl
    | cons z q => rw [List.nil_append, ins_cons, if_pos (hq z (by simp))]; rfl
  | z :: p => by
    rw [List.cons_append, ins_cons, ins_cons]
    split
    · rfl
    · rw [ins_ahead hq p]; rfl
theorem mrg_behind : ∀ {b p q : List α}, (∀ y ∈ b, ∀ z ∈ p, ¬ lt y z = true) → mrg lt (p ++ q) b = p ++ mrg lt q b
  | [], p, q, _ => rfl
  | y :: b, p, q, h => by
    rw [mrg_cons, mrg_cons, ins_behind (h y (by simp)), mrg_behind (fun w hw => h w (by simp [hw]))]
theorem mrg_ahead : ∀ {b p q : List α}, (∀ y ∈ b, ∀ z ∈ q, lt y z = true) → mrg lt (p ++ q) b = mrg lt p b ++ q
  | [], p, q, _ => rfl
  | y :: b, p, q, h => by
    rw [mrg_cons, mrg_cons, ins_ahead (h y (by simp)), mrg_ahead (fun w hw => h w (by simp [hw]))]
/-- Parts may be merged each by itself. -/
theorem mrg_parts {a1 a2 b1 b2 : List α} (h1 : ∀ y ∈ b2, ∀ x ∈ a1, ¬ lt y x = true) (h2 : ∀ y ∈ b1, ∀ x ∈ a2, lt y x = true) (h3 : ∀ y ∈ b2, ∀ x ∈ b1, ¬ lt y x = true) : mrg lt (a1 ++ a2) (b1 ++ b2) = mrg lt a1 b1 ++ mrg lt a2 b2 := by
  rw [mrg_append, mrg_ahead h2, mrg_behind]
  intro y hy z hz
  rcases mrg_mem.1 hz with hz | hz
  · exact h1 y hy z hz
  · exact h3 y hy z hz
/-- What is in order is what comes of merging it into nothing. -/
theorem mrg_self (a : List α) : ∀ {b : List α}, srt lt b → (∀ y ∈ b, ∀ z ∈ a, ¬ lt y z = true) → mrg lt a b = a ++ b
  | [], _, _ => by simp [mrg_nil]
  | y :: b, hs, h => by
    have hc := srt_cons.1 hs
    have e : ins lt y a = a ++ [y] := by
      have := ins_behind (q := []) (h y (by simp))
      rwa [List.append_nil] at this
    rw [mrg_cons, e, mrg_self (a ++ [y]) hc.2, List.append_assoc]
    · rfl
    · intro w hw z hz
      rcases List.mem_append.1 hz with hz | hz
      · exact h w (by simp [hw]) z hz
      · rw [List.mem_singleton.1 hz]
        exact hc.1 w hw
theorem mrg_nil' {b : List α} (hs : srt lt b) : mrg lt [] b = b := by
  have := mrg_self [] hs (by simp)
  simpa using this
/-- Unlike things may be put in either order. -/
theorem ins_comm (h : SW lt) {x y : α} (hxy : lt x y = true) : ∀ l : List α, ins lt x (ins lt y l) = ins lt y (ins lt x l)
  | [] => by
    have hn := h.asym x y hxy
    simp [ins, hxy, hn]
  | z :: l => by
    have hn := h.asym x y hxy
    by_cases c : lt y z = true
    · have c2 : lt x z = true := by
        apply Decidable.byContradiction
        intro hq
        exact h.tie x z y hq (h.asym _ _ c) hxy
      rw [ins_cons y, if_pos c, ins_cons x z, if_pos c2, ins_cons x, if_pos hxy, ins_cons y, if_neg hn, ins_cons y, if_pos c]
    · rw [ins_cons y z, if_neg c]
      by_cases c2 : lt x z = true
      · rw [ins_cons x z, if_pos c2, ins_cons x z, if_pos c2, ins_cons y, if_neg hn, ins_cons y, if_neg c]
      · rw [ins_cons x z, if_neg c2, ins_cons x z, if_neg c2, ins_cons y, if_neg c, ins_comm h hxy l]
theorem mrg_ins (h : SW lt) {x : α} : ∀ {b a : List α}, (∀ y ∈ b, lt x y = true) → mrg lt (ins lt x a) b = ins lt x (mrg lt a b)
  | [], a, _ => rfl
  | y :: b, a, hb => by
    rw [mrg_cons, mrg_cons, ← ins_comm h (hb y (by simp)), mrg_ins h (fun w hw => hb w (by simp [hw]))]
/-- To merge what a thing was put into is to merge first, and then to put the thing. -/
theorem mrg_of_ins (h : SW lt) (x : α) : ∀ {s a : List α}, srt lt s → mrg lt a (ins lt x s) = ins lt x (mrg lt a s)
  | [], a, _ => rfl
  | y :: s, a, hs => by
    have hc := srt_cons.1 hs
    rw [ins_cons]
    split
    · rename_i c
      rw [mrg_cons a x, mrg_ins h]
      intro z hz
      rcases List.mem_cons.1 hz with rfl | hz
      · exact c
      · exact h.lt_of c (hc.1 z hz)
    · rw [mrg_cons, mrg_of_ins h x hc.2, mrg_cons]
theorem mrg_mrg (h : SW lt) : ∀ {b s a : List α}, srt lt s → mrg lt a (mrg lt s b) = mrg lt (mrg lt a s) b
  | [], s, a, _ => rfl
  | x :: b, s, a, hs => by
    rw [mrg_cons s, mrg_mrg h (ins_srt h x hs), mrg_of_ins h x hs, mrg_cons]
/-- What is put in order by parts, and merged. -/
theorem tsort_append (h : SW lt) (a b : List α) : mrg lt (tsort lt a) (tsort lt b) = tsort lt (a ++ b) := by
  unfold tsort
  rw [mrg_mrg h (by simp [srt]), mrg_append, mrg_nil]
theorem tsort_len (l : List α) : (tsort lt l).length = l.length := by unfold tsort; rw [mrg_len]; simp
theorem tsort_snoc (l : List α) (x : α) : tsort lt (l ++ [x]) = ins lt x (tsort lt l) := by
  unfold tsort
  rw [mrg_append]
  rfl
end SortT
end Go.Proofs.Ytaebmmjhokjdbaa.PM
