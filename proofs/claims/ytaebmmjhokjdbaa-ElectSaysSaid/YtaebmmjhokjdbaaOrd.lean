/- Lists of keys put in order: the head. -/
import Derived.Test.YtaebmmjhokjdbaaSort
namespace Go.Proofs.Ytaebmmjhokjdbaa.PM
open Go.RowKit Go.Proofs.YtaebmmjhokjdbaaW.PrintWords Go.Proofs.YtaebmmjhokjdbaaW.PrintLast Go.Proofs.YtaebmmjhokjdbaaW.PrintMore Go.Proofs.Ytaebmmjhokjdbaa.My
set_option linter.unusedVariables false
namespace ElectF
open SortT SortF
instance kvDec : DecidableEq KV := fun a b =>
  if h : a.f0 = b.f0 ∧ a.f1 = b.f1 ∧ a.f2 = b.f2 ∧ a.f3 = b.f3 ∧ a.f4 = b.f4 ∧ a.f5 = b.f5 then isTrue (by
    obtain ⟨a0, a1, a2, a3, a4, a5⟩ := a
    obtain ⟨b0, b1, b2, b3, b4, b5⟩ := b
    simp only at h
    obtain ⟨rfl, rfl, rfl, rfl, rfl, rfl⟩ := h
    rfl)
  else isFalse (by rintro rfl; exact h ⟨rfl, rfl, rfl, rfl, rfl, rfl⟩)
def ord (l : List KV) : List KV := tsort bf l
theorem ord_len (l : List KV) : (ord l).length = l.length := tsort_len l
theorem ord_mem {l : List KV} {z : KV} : z ∈ ord l ↔ z ∈ l := by unfold ord tsort; rw [mrg_mem]; simp
theorem ord_srt (l : List KV) : srt bf (ord l) := mrg_srt sw (by simp [srt])
/-- The head. -/
def hdo (l : List KV) : Option KV := (ord l).head?
theorem hdo_nil : hdo [] = none := rfl
theorem hdo_none {l : List KV} : hdo l = none ↔ l = [] := by
  unfold hdo
  rw [List.head?_eq_none_iff]
  constructor
  · intro h
    have := ord_len l
    rw [h] at this
    exact List.length_eq_zero_iff.1 this.symm
  · rintro rfl; rfl
theorem hdo_mem {l : List KV} {x : KV} (h : hdo l = some x) : x ∈ l := ord_mem.1 (List.mem_of_mem_head? (by unfold hdo at h; rw [h]; rfl))
theorem hdo_min {l : List KV} {x : KV} (h : hdo l = some x) : ∀ y ∈ l, x.f2 ≤ y.f2 := by
  intro y hy
  unfold hdo at h
  have hs := ord_srt l
  have hm := ord_mem.2 hy
  cases ho : ord l with
  | nil => rw [ho] at h; cases h
  | cons z q =>
    rw [ho] at h hs hm
    obtain rfl := Option.some.inj h
    rcases List.mem_cons.1 hm with e | e
    · rw [e]; exact Int.le_refl _
    · have := (srt_cons.1 hs).1 y e
      rw [bf_iff] at this
      apply Decidable.byContradiction
      intro c
      exact this (.inl (by omega))
theorem hdo_some {l : List KV} (h : l ≠ []) : ∃ x, hdo l = some x := by
  cases e : hdo l with
  | none => exact absurd (hdo_none.1 e) h
  | some x => exact ⟨x, rfl⟩
theorem hdo_of {l : List KV} {x : KV} (hx : x ∈ l) (h : ∀ y ∈ l, y ≠ x → x.f2 < y.f2) : hdo l = some x := by
  obtain ⟨z, hz⟩ := hdo_some (l := l) (by rintro rfl; simp at hx)
  by_cases e : z = x
  · rw [hz, e]
  · have h1 := h z (hdo_mem hz) e
    have h2 := hdo_min hz x hx
    omega
end ElectF
end Go.Proofs.Ytaebmmjhokjdbaa.PM
