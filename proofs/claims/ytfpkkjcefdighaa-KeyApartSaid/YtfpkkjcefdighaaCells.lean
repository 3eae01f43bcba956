/- Structs of several cells (trimmed). -/
import Derived.Test.YtfpkkjcefdighaaMy
namespace Go.Proofs.Ytfpkkjcefdighaa.My
open Go.RowKit Go.Proofs.YtfpkkjcefdighaaW.PrintWords
set_option linter.unusedVariables false
theorem Ka {p q : Prop} (h : p) (k : p → q := by (intro h; (with_reducible repeat (first | refine blk_drewN ?_ _ | refine blk_drew ?_ | refine blk_alloc ?_ _)); exact h)) : q := k h
theorem bG {p q : Prop} (h : p) (k : p → q := by (intro h; repeat (first | (with_reducible first | exact HB.out | apply below_alloc | apply pw_below_drewN | apply below_drew1 | refine below_set ?_ h) | exact HB.out))) : q := k h
theorem bH {p p2 q : Prop} (h : p) (h2 : p2) (k : p → p2 → q := by (intro h h2; repeat (first | (with_reducible first | exact HB.out | apply below_alloc | apply pw_below_drewN | apply below_drew1 | refine below_set ?_ h | refine below_set ?_ h2) | exact HB.out))) : q := k h h2
theorem kb {W0 W w1 : World} {g : Nat} {o : Obj} (h : W0.heap[g]? = some o) (hb : Below W.heap.size W w1) (k : W0.heap[g]? = some o → W.heap[g]? = some o := by (intro h; (with_reducible repeat (first | refine blk_drewN ?_ _ | refine blk_drew ?_ | refine blk_alloc ?_ _)); exact h)) : w1.heap[g]? = some o := blk_below (k h) hb
theorem bI {p p2 p3 q : Prop} (h : p) (h2 : p2) (h3 : p3) (k : p → p2 → p3 → q := by (intro h h2 h3; repeat (first | (with_reducible first | exact HB.out | apply below_alloc | apply pw_below_drewN | apply below_drew1 | refine below_set ?_ h | refine below_set ?_ h2 | refine below_set ?_ h3) | exact HB.out))) : q := k h h2 h3
theorem qc2 {w : World} {g : Nat} {t : TypeId} {a0 a1 : Value} (h : w.heap[g]? = some (.cells #[a0, a1] t (0, 0))) : w.cell? ⟨g, 0, none⟩ = some a0 ∧ w.cell? ⟨g, 1, none⟩ = some a1 := ⟨(blk_cell h 0).trans rfl, (blk_cell h 1).trans rfl⟩
theorem qf2 {w : World} {g : Nat} {t : TypeId} {a0 a1 : Value} (h : w.heap[g]? = some (.cells #[a0, a1] t (0, 0))) : w.frozen? ⟨g, 0, none⟩ = false ∧ w.frozen? ⟨g, 1, none⟩ = false := ⟨blk_frozen h 0, blk_frozen h 1⟩
end Go.Proofs.Ytfpkkjcefdighaa.My
