/-
  No cell of these rows narrows 'for every input' (looked for: loops, veiled, ifaces, maps, wideKeys, modest, calm, conditions, laid).
  DERIVED. THE GIVEN ROWS OF THIS SEAT. 6 by the template 'for every input the law returns true; each argument reads behind the call as it read before'; 0 by the template 'total and deterministic' (their statements: YtfdfilgohcbgfaaTotals.lean).
  GIVEN WITH THE SEED: the statements are not yours to turn. If you find one false, say at which input.
  Laid BY PROGRAM, IN A SANDBOX (cutbox-rows.mjs): the forced cells as the released guide's own fill.sh prints them over the translation ee8ceae5bf5e7a59… (all of the seat's roots in one cut). By AI agents, Wed Nov 11 2026. No macro, syntax, notation, axiom, sorry.
-/
import Derived.Test.YtfdfilgohcbgfaaChecked
import GoSem.Claim
import GoSem.ClaimJoined
import GoSem.ClaimMapViews
import Derived.JoinedTies
import Derived.KernelRfl
namespace Go.Proofs.Ytfdfilgohcbgfaa
/- THE CELL 'sum', in the pinned program and in every row, IS THE sha256 OF THE DUMP (.gsa) THAT YtfdfilgohcbgfaaProg.lean LOADS. Nothing in Lean hashes anything: it is a label: what it is worth is what the hold of that sum in a sandbox is worth. -/
noncomputable def Try.pinned : Pinned := { name := "ytfdfilgohcbgfaa", sum := "ee8ceae5bf5e7a59e1e36433cb19a5ee9b67e6fc259b2918a68a23b775d258f5", checked := Try.checked }
namespace Rows
def none {H : Type} : Left H := { results := [], args := [] }

/-- 'batonlaw12.BagPuts': WHATEVER THE INPUT: true; the input reads as it did. -/
def bagPutsSpec : ChangeSpec := { name := "bagPuts", fn := fun _ => fun
  | [d1, d2] => { results := [.lit (.bool true)], args := [d1, d2] }
  | _ => none }
def bagPutsRow : OpenClaim := { program := "ytfdfilgohcbgfaa", sum := "ee8ceae5bf5e7a59e1e36433cb19a5ee9b67e6fc259b2918a68a23b775d258f5", func := "baton/batonlaw12.BagPuts", spec := "bagPuts", unfollowed := true, recurses := true, apart := false }
def BagPutsSaid : Prop := bagPutsRow.holds Try.pinned (OpenSpec.ofChange bagPutsSpec)

/-- ITS FALSE NEIGHBOUR: 'it returns false'. Refute it at one input. -/
def bagPutsWrong : ChangeSpec := { name := "bagPuts", fn := fun _ => fun
  | [d1, d2] => { results := [.lit (.bool false)], args := [d1, d2] }
  | _ => none }
def BagPutsWrongFalsely : Prop := bagPutsRow.holds Try.pinned (OpenSpec.ofChange bagPutsWrong)

/-- 'batonlaw12.BagTakes': WHATEVER THE INPUT: true; the input reads as it did. -/
def bagTakesSpec : ChangeSpec := { name := "bagTakes", fn := fun _ => fun
  | [d1, d2, d3] => { results := [.lit (.bool true)], args := [d1, d2, d3] }
  | _ => none }
def bagTakesRow : OpenClaim := { program := "ytfdfilgohcbgfaa", sum := "ee8ceae5bf5e7a59e1e36433cb19a5ee9b67e6fc259b2918a68a23b775d258f5", func := "baton/batonlaw12.BagTakes", spec := "bagTakes", unfollowed := true, recurses := true, apart := false }
def BagTakesSaid : Prop := bagTakesRow.holds Try.pinned (OpenSpec.ofChange bagTakesSpec)

/-- ITS FALSE NEIGHBOUR: 'it returns false'. Refute it at one input. -/
def bagTakesWrong : ChangeSpec := { name := "bagTakes", fn := fun _ => fun
  | [d1, d2, d3] => { results := [.lit (.bool false)], args := [d1, d2, d3] }
  | _ => none }
def BagTakesWrongFalsely : Prop := bagTakesRow.holds Try.pinned (OpenSpec.ofChange bagTakesWrong)

/-- 'batonlaw12.BagMay': WHATEVER THE INPUT: true; the input reads as it did. -/
def bagMaySpec : ChangeSpec := { name := "bagMay", fn := fun _ => fun
  | [d1, d2, d3] => { results := [.lit (.bool true)], args := [d1, d2, d3] }
  | _ => none }
def bagMayRow : OpenClaim := { program := "ytfdfilgohcbgfaa", sum := "ee8ceae5bf5e7a59e1e36433cb19a5ee9b67e6fc259b2918a68a23b775d258f5", func := "baton/batonlaw12.BagMay", spec := "bagMay", unfollowed := true, recurses := true, apart := false }
def BagMaySaid : Prop := bagMayRow.holds Try.pinned (OpenSpec.ofChange bagMaySpec)

/-- ITS FALSE NEIGHBOUR: 'it returns false'. Refute it at one input. -/
def bagMayWrong : ChangeSpec := { name := "bagMay", fn := fun _ => fun
  | [d1, d2, d3] => { results := [.lit (.bool false)], args := [d1, d2, d3] }
  | _ => none }
def BagMayWrongFalsely : Prop := bagMayRow.holds Try.pinned (OpenSpec.ofChange bagMayWrong)

/-- 'batonlaw12.BagBack': WHATEVER THE INPUT: true; the input reads as it did. -/
def bagBackSpec : ChangeSpec := { name := "bagBack", fn := fun _ => fun
  | [d1, d2, d3] => { results := [.lit (.bool true)], args := [d1, d2, d3] }
  | _ => none }
def bagBackRow : OpenClaim := { program := "ytfdfilgohcbgfaa", sum := "ee8ceae5bf5e7a59e1e36433cb19a5ee9b67e6fc259b2918a68a23b775d258f5", func := "baton/batonlaw12.BagBack", spec := "bagBack", unfollowed := true, recurses := true, apart := false }
def BagBackSaid : Prop := bagBackRow.holds Try.pinned (OpenSpec.ofChange bagBackSpec)

/-- ITS FALSE NEIGHBOUR: 'it returns false'. Refute it at one input. -/
def bagBackWrong : ChangeSpec := { name := "bagBack", fn := fun _ => fun
  | [d1, d2, d3] => { results := [.lit (.bool false)], args := [d1, d2, d3] }
  | _ => none }
def BagBackWrongFalsely : Prop := bagBackRow.holds Try.pinned (OpenSpec.ofChange bagBackWrong)

/-- 'batonlaw12.BagCounts': WHATEVER THE INPUT: true; the input reads as it did. -/
def bagCountsSpec : ChangeSpec := { name := "bagCounts", fn := fun _ => fun
  | [d1, d2, d3] => { results := [.lit (.bool true)], args := [d1, d2, d3] }
  | _ => none }
def bagCountsRow : OpenClaim := { program := "ytfdfilgohcbgfaa", sum := "ee8ceae5bf5e7a59e1e36433cb19a5ee9b67e6fc259b2918a68a23b775d258f5", func := "baton/batonlaw12.BagCounts", spec := "bagCounts", unfollowed := true, recurses := true, apart := false }
def BagCountsSaid : Prop := bagCountsRow.holds Try.pinned (OpenSpec.ofChange bagCountsSpec)

/-- ITS FALSE NEIGHBOUR: 'it returns false'. Refute it at one input. -/
def bagCountsWrong : ChangeSpec := { name := "bagCounts", fn := fun _ => fun
  | [d1, d2, d3] => { results := [.lit (.bool false)], args := [d1, d2, d3] }
  | _ => none }
def BagCountsWrongFalsely : Prop := bagCountsRow.holds Try.pinned (OpenSpec.ofChange bagCountsWrong)

/-- 'batonlaw12.BagMoves': WHATEVER THE INPUT: true; the input reads as it did. -/
def bagMovesSpec : ChangeSpec := { name := "bagMoves", fn := fun _ => fun
  | [d1, d2] => { results := [.lit (.bool true)], args := [d1, d2] }
  | _ => none }
def bagMovesRow : OpenClaim := { program := "ytfdfilgohcbgfaa", sum := "ee8ceae5bf5e7a59e1e36433cb19a5ee9b67e6fc259b2918a68a23b775d258f5", func := "baton/batonlaw12.BagMoves", spec := "bagMoves", unfollowed := true, recurses := true, apart := false }
def BagMovesSaid : Prop := bagMovesRow.holds Try.pinned (OpenSpec.ofChange bagMovesSpec)

/-- ITS FALSE NEIGHBOUR: 'it returns false'. Refute it at one input. -/
def bagMovesWrong : ChangeSpec := { name := "bagMoves", fn := fun _ => fun
  | [d1, d2] => { results := [.lit (.bool false)], args := [d1, d2] }
  | _ => none }
def BagMovesWrongFalsely : Prop := bagMovesRow.holds Try.pinned (OpenSpec.ofChange bagMovesWrong)

/- THE SECOND FORM. 'bulk': how many values and letters a reading holds, each counted each time it is reached (what is shared counts as often as it is met; a slice's spare places count too). A statement '..UptoSaid' is the law's where the arguments, and the package variables that the reading takes, are together of bulk at most 1048576: NARROWER than '..Said'. Prove '..Said' where nothing that the law and all that it calls make is longer than what came in: it says more and counts as full. Else prove '..UptoSaid'. A law counts once. -/
mutual
def uptoBulk {H : Type} : DataW H → Nat
  | .lit (.string bytes) => bytes.length + 1
  | .lit _ => 1
  | .nil => 1
  | .ptr d => uptoBulk d + 1
  | .slice elems spare => uptoBulkAll elems + uptoBulkAll spare + 1
  | .agg parts => uptoBulkAll parts + 1
  | .iface _ d => uptoBulk d + 1
  | .map entries => uptoBulkEntries entries + 1
  | .held _ => 1
def uptoBulkAll {H : Type} : List (DataW H) → Nat
  | [] => 0
  | d :: r => uptoBulk d + uptoBulkAll r
def uptoBulkEntries {H : Type} : List (Lit × DataW H) → Nat
  | [] => 0
  | x :: r => uptoBulkEntry x + uptoBulkEntries r
def uptoBulkEntry {H : Type} : Lit × DataW H → Nat
  | (.string bytes, d) => bytes.length + uptoBulk d + 1
  | (_, d) => uptoBulk d + 1
 end
def uptoSmall : (H : Type) → List (DataW H) → Bool := fun _ ds => decide (uptoBulkAll ds ≤ 1048576)
def OpenSpec.upto (s : _root_.Go.ChangeSpec) : _root_.Go.OpenSpec := { _root_.Go.OpenSpec.ofChange s with cond := some uptoSmall }

/-- 'batonlaw12.BagPuts', WHERE WHAT IT READS IS OF BULK AT MOST 1048576: true; the input reads as it did. -/
def bagPutsUptoRow : OpenClaim := { program := "ytfdfilgohcbgfaa", sum := "ee8ceae5bf5e7a59e1e36433cb19a5ee9b67e6fc259b2918a68a23b775d258f5", func := "baton/batonlaw12.BagPuts", spec := "bagPuts", unfollowed := true, recurses := true, apart := false, narrowed := true }
def BagPutsUptoSaid : Prop := bagPutsUptoRow.holds Try.pinned (OpenSpec.upto bagPutsSpec)

/-- 'batonlaw12.BagTakes', WHERE WHAT IT READS IS OF BULK AT MOST 1048576: true; the input reads as it did. -/
def bagTakesUptoRow : OpenClaim := { program := "ytfdfilgohcbgfaa", sum := "ee8ceae5bf5e7a59e1e36433cb19a5ee9b67e6fc259b2918a68a23b775d258f5", func := "baton/batonlaw12.BagTakes", spec := "bagTakes", unfollowed := true, recurses := true, apart := false, narrowed := true }
def BagTakesUptoSaid : Prop := bagTakesUptoRow.holds Try.pinned (OpenSpec.upto bagTakesSpec)

/-- 'batonlaw12.BagMay', WHERE WHAT IT READS IS OF BULK AT MOST 1048576: true; the input reads as it did. -/
def bagMayUptoRow : OpenClaim := { program := "ytfdfilgohcbgfaa", sum := "ee8ceae5bf5e7a59e1e36433cb19a5ee9b67e6fc259b2918a68a23b775d258f5", func := "baton/batonlaw12.BagMay", spec := "bagMay", unfollowed := true, recurses := true, apart := false, narrowed := true }
def BagMayUptoSaid : Prop := bagMayUptoRow.holds Try.pinned (OpenSpec.upto bagMaySpec)

/-- 'batonlaw12.BagBack', WHERE WHAT IT READS IS OF BULK AT MOST 1048576: true; the input reads as it did. -/
def bagBackUptoRow : OpenClaim := { program := "ytfdfilgohcbgfaa", sum := "ee8ceae5bf5e7a59e1e36433cb19a5ee9b67e6fc259b2918a68a23b775d258f5", func := "baton/batonlaw12.BagBack", spec := "bagBack", unfollowed := true, recurses := true, apart := false, narrowed := true }
def BagBackUptoSaid : Prop := bagBackUptoRow.holds Try.pinned (OpenSpec.upto bagBackSpec)

/-- 'batonlaw12.BagCounts', WHERE WHAT IT READS IS OF BULK AT MOST 1048576: true; the input reads as it did. -/
def bagCountsUptoRow : OpenClaim := { program := "ytfdfilgohcbgfaa", sum := "ee8ceae5bf5e7a59e1e36433cb19a5ee9b67e6fc259b2918a68a23b775d258f5", func := "baton/batonlaw12.BagCounts", spec := "bagCounts", unfollowed := true, recurses := true, apart := false, narrowed := true }
def BagCountsUptoSaid : Prop := bagCountsUptoRow.holds Try.pinned (OpenSpec.upto bagCountsSpec)

/-- 'batonlaw12.BagMoves', WHERE WHAT IT READS IS OF BULK AT MOST 1048576: true; the input reads as it did. -/
def bagMovesUptoRow : OpenClaim := { program := "ytfdfilgohcbgfaa", sum := "ee8ceae5bf5e7a59e1e36433cb19a5ee9b67e6fc259b2918a68a23b775d258f5", func := "baton/batonlaw12.BagMoves", spec := "bagMoves", unfollowed := true, recurses := true, apart := false, narrowed := true }
def BagMovesUptoSaid : Prop := bagMovesUptoRow.holds Try.pinned (OpenSpec.upto bagMovesSpec)

end Rows
end Go.Proofs.Ytfdfilgohcbgfaa
