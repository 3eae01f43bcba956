/- More short forms for structs of several cells. -/
import Derived.Test.YtjhfidafeeiogaaCells
namespace Go.Proofs.Ytjhfidafeeiogaa.My
open Go.RowKit Go.Proofs.YtjhfidafeeiogaaW.PrintWords
set_option linter.unusedVariables false
theorem kb {W0 W w1 : World} {g : Nat} {o : Obj} (h : W0.heap[g]? = some o) (hb : Below W.heap.size W w1) (k : W0.heap[g]? = some o → W.heap[g]? = some o := by (intro h; (with_reducible repeat (first | refine blk_drewN ?_ _ | refine blk_drew ?_ | refine blk_alloc ?_ _)); exact h)) : w1.heap[g]? = some o := blk_below (k h) hb
theorem kg {W0 W w1 : World} {g : Nat} {o : Obj} {row : Option Nat} (h : W0.heap[g]? = some o) (hg : W.grownBy w1 row) (hne : some g ≠ row) (k : W0.heap[g]? = some o → W.heap[g]? = some o := by (intro h; (with_reducible repeat (first | refine blk_drewN ?_ _ | refine blk_drew ?_ | refine blk_alloc ?_ _)); exact h)) : w1.heap[g]? = some o := blk_grown (k h) hg hne
theorem qp6 {w : World} {g : Nat} {t : TypeId} {a0 a1 a2 a3 a4 a5 b0 b1 b2 b3 b4 b5 : Value} (h : w.heap[g]? = some (.cells #[a0, a1, a2, a3, a4, a5] t (0, 0))) : ((((((w.setCell ⟨g, 0, none⟩ b0).setCell ⟨g, 1, none⟩ b1).setCell ⟨g, 2, none⟩ b2).setCell ⟨g, 3, none⟩ b3).setCell ⟨g, 4, none⟩ b4).setCell ⟨g, 5, none⟩ b5).heap[g]? = some (.cells #[b0, b1, b2, b3, b4, b5] t (0, 0)) := (blk_put (cs := #[b0, b1, b2, b3, b4, a5]) (blk_put (cs := #[b0, b1, b2, b3, a4, a5]) (blk_put (cs := #[b0, b1, b2, a3, a4, a5]) (blk_put (cs := #[b0, b1, a2, a3, a4, a5]) (blk_put (cs := #[b0, a1, a2, a3, a4, a5]) (blk_put (cs := #[a0, a1, a2, a3, a4, a5]) h 0 b0 rfl) 1 b1 rfl) 2 b2 rfl) 3 b3 rfl) 4 b4 rfl) 5 b5 rfl)
theorem uq {w w' : World} {p : Addr} {v : Value} {q : Prop} (hb : Below w.heap.size w w') (h : w.cell? p = some v) (k : w'.cell? p = some v → q := by (intro h_; first | exact h_ | (refine Eq.trans h_ ?_; simp [*]))) : q := k (up hb h)
end Go.Proofs.Ytjhfidafeeiogaa.My
