/-
  No cell of these rows narrows 'for every input' (looked for: loops, veiled, ifaces, maps, wideKeys, modest, calm, conditions, laid).
  DERIVED. THE GIVEN ROWS OF THIS SEAT. 5 by the template 'for every input the law returns true; each argument reads behind the call as it read before'; 0 by the template 'total and deterministic' (their statements: YtfcbnheefipldaaTotals.lean).
  GIVEN WITH THE SEED: the statements are not yours to turn. If you find one false, say at which input.
  Laid BY PROGRAM, IN A SANDBOX (cutbox-rows.mjs): the forced cells as the released guide's own fill.sh prints them over the translation a4e7a188bbc10c66… (all of the seat's roots in one cut). By AI agents, Wed Nov 11 2026. No macro, syntax, notation, axiom, sorry.
-/
import Derived.Test.YtfcbnheefipldaaChecked
import GoSem.Claim
import GoSem.ClaimJoined
import GoSem.ClaimMapViews
import Derived.JoinedTies
import Derived.KernelRfl
namespace Go.Proofs.Ytfcbnheefipldaa
/- THE CELL 'sum', in the pinned program and in every row, IS THE sha256 OF THE DUMP (.gsa) THAT YtfcbnheefipldaaProg.lean LOADS. Nothing in Lean hashes anything: it is a label: what it is worth is what the hold of that sum in a sandbox is worth. -/
noncomputable def Try.pinned : Pinned := { name := "ytfcbnheefipldaa", sum := "a4e7a188bbc10c66b7faa5f0bf3252065e066fdec7e77c52acf4b1a7732c7667", checked := Try.checked }
namespace Rows
def none {H : Type} : Left H := { results := [], args := [] }

/-- 'batonlaw11.DriftRuns': WHATEVER THE INPUT: true; the input reads as it did. -/
def driftRunsSpec : ChangeSpec := { name := "driftRuns", fn := fun _ => fun
  | [d1, d2, d3] => { results := [.lit (.bool true)], args := [d1, d2, d3] }
  | _ => none }
def driftRunsRow : OpenClaim := { program := "ytfcbnheefipldaa", sum := "a4e7a188bbc10c66b7faa5f0bf3252065e066fdec7e77c52acf4b1a7732c7667", func := "baton/batonlaw11.DriftRuns", spec := "driftRuns", unfollowed := true, recurses := true, apart := false }
def DriftRunsSaid : Prop := driftRunsRow.holds Try.pinned (OpenSpec.ofChange driftRunsSpec)

/-- ITS FALSE NEIGHBOUR: 'it returns false'. Refute it at one input. -/
def driftRunsWrong : ChangeSpec := { name := "driftRuns", fn := fun _ => fun
  | [d1, d2, d3] => { results := [.lit (.bool false)], args := [d1, d2, d3] }
  | _ => none }
def DriftRunsWrongFalsely : Prop := driftRunsRow.holds Try.pinned (OpenSpec.ofChange driftRunsWrong)

/-- 'batonlaw11.DriftSpans': WHATEVER THE INPUT: true; the input reads as it did. -/
def driftSpansSpec : ChangeSpec := { name := "driftSpans", fn := fun _ => fun
  | [d1, d2, d3] => { results := [.lit (.bool true)], args := [d1, d2, d3] }
  | _ => none }
def driftSpansRow : OpenClaim := { program := "ytfcbnheefipldaa", sum := "a4e7a188bbc10c66b7faa5f0bf3252065e066fdec7e77c52acf4b1a7732c7667", func := "baton/batonlaw11.DriftSpans", spec := "driftSpans", unfollowed := true, recurses := true, apart := false }
def DriftSpansSaid : Prop := driftSpansRow.holds Try.pinned (OpenSpec.ofChange driftSpansSpec)

/-- ITS FALSE NEIGHBOUR: 'it returns false'. Refute it at one input. -/
def driftSpansWrong : ChangeSpec := { name := "driftSpans", fn := fun _ => fun
  | [d1, d2, d3] => { results := [.lit (.bool false)], args := [d1, d2, d3] }
  | _ => none }
def DriftSpansWrongFalsely : Prop := driftSpansRow.holds Try.pinned (OpenSpec.ofChange driftSpansWrong)

/-- 'batonlaw11.DriftFits': WHATEVER THE INPUT: true; the input reads as it did. -/
def driftFitsSpec : ChangeSpec := { name := "driftFits", fn := fun _ => fun
  | [d1, d2, d3] => { results := [.lit (.bool true)], args := [d1, d2, d3] }
  | _ => none }
def driftFitsRow : OpenClaim := { program := "ytfcbnheefipldaa", sum := "a4e7a188bbc10c66b7faa5f0bf3252065e066fdec7e77c52acf4b1a7732c7667", func := "baton/batonlaw11.DriftFits", spec := "driftFits", unfollowed := true, recurses := true, apart := false }
def DriftFitsSaid : Prop := driftFitsRow.holds Try.pinned (OpenSpec.ofChange driftFitsSpec)

/-- ITS FALSE NEIGHBOUR: 'it returns false'. Refute it at one input. -/
def driftFitsWrong : ChangeSpec := { name := "driftFits", fn := fun _ => fun
  | [d1, d2, d3] => { results := [.lit (.bool false)], args := [d1, d2, d3] }
  | _ => none }
def DriftFitsWrongFalsely : Prop := driftFitsRow.holds Try.pinned (OpenSpec.ofChange driftFitsWrong)

/-- 'batonlaw11.DriftTight': WHATEVER THE INPUT: true; the input reads as it did. -/
def driftTightSpec : ChangeSpec := { name := "driftTight", fn := fun _ => fun
  | [d] => { results := [.lit (.bool true)], args := [d] }
  | _ => none }
def driftTightRow : OpenClaim := { program := "ytfcbnheefipldaa", sum := "a4e7a188bbc10c66b7faa5f0bf3252065e066fdec7e77c52acf4b1a7732c7667", func := "baton/batonlaw11.DriftTight", spec := "driftTight", unfollowed := true, recurses := true, apart := false }
def DriftTightSaid : Prop := driftTightRow.holds Try.pinned (OpenSpec.ofChange driftTightSpec)

/-- ITS FALSE NEIGHBOUR: 'it returns false'. Refute it at one input. -/
def driftTightWrong : ChangeSpec := { name := "driftTight", fn := fun _ => fun
  | [d] => { results := [.lit (.bool false)], args := [d] }
  | _ => none }
def DriftTightWrongFalsely : Prop := driftTightRow.holds Try.pinned (OpenSpec.ofChange driftTightWrong)

/-- 'batonlaw11.DriftBounds': WHATEVER THE INPUT: true; the input reads as it did. -/
def driftBoundsSpec : ChangeSpec := { name := "driftBounds", fn := fun _ => fun
  | [d1, d2, d3] => { results := [.lit (.bool true)], args := [d1, d2, d3] }
  | _ => none }
def driftBoundsRow : OpenClaim := { program := "ytfcbnheefipldaa", sum := "a4e7a188bbc10c66b7faa5f0bf3252065e066fdec7e77c52acf4b1a7732c7667", func := "baton/batonlaw11.DriftBounds", spec := "driftBounds", unfollowed := true, recurses := true, apart := false }
def DriftBoundsSaid : Prop := driftBoundsRow.holds Try.pinned (OpenSpec.ofChange driftBoundsSpec)

/-- ITS FALSE NEIGHBOUR: 'it returns false'. Refute it at one input. -/
def driftBoundsWrong : ChangeSpec := { name := "driftBounds", fn := fun _ => fun
  | [d1, d2, d3] => { results := [.lit (.bool false)], args := [d1, d2, d3] }
  | _ => none }
def DriftBoundsWrongFalsely : Prop := driftBoundsRow.holds Try.pinned (OpenSpec.ofChange driftBoundsWrong)

/- THE SECOND FORM. 'bulk': how many values and letters a reading holds, each counted each time it is reached (what is shared counts as often as it is met; a slice's spare places count too). A statement '..UptoSaid' is the law's where the arguments, and the package variables that the reading takes, are together of bulk at most 1048576: NARROWER than '..Said'. Prove '..Said' where nothing that the law and all that it calls make is longer than what came in: it says more and counts as full. Else prove '..UptoSaid'. A law counts once. -/
mutual
def uptoBulk {H : Type} : DataW H → Nat
  | .lit (.string bytes) => bytes.length + 1
  | .lit _ => 1
  | .nil => 1
  | .ptr d => uptoBulk d + 1
  | .slice elems spare => uptoBulkAll elems + uptoBulkAll spare + 1
  | .agg parts => uptoBulkAll parts + 1
  | .iface _ d => uptoBulk d + 1
  | .map entries => uptoBulkEntries entries + 1
  | .held _ => 1
def uptoBulkAll {H : Type} : List (DataW H) → Nat
  | [] => 0
  | d :: r => uptoBulk d + uptoBulkAll r
def uptoBulkEntries {H : Type} : List (Lit × DataW H) → Nat
  | [] => 0
  | x :: r => uptoBulkEntry x + uptoBulkEntries r
def uptoBulkEntry {H : Type} : Lit × DataW H → Nat
  | (.string bytes, d) => bytes.length + uptoBulk d + 1
  | (_, d) => uptoBulk d + 1
 end
def uptoSmall : (H : Type) → List (DataW H) → Bool := fun _ ds => decide (uptoBulkAll ds ≤ 1048576)
def OpenSpec.upto (s : _root_.Go.ChangeSpec) : _root_.Go.OpenSpec := { _root_.Go.OpenSpec.ofChange s with cond := some uptoSmall }

/-- 'batonlaw11.DriftRuns', WHERE WHAT IT READS IS OF BULK AT MOST 1048576: true; the input reads as it did. -/
def driftRunsUptoRow : OpenClaim := { program := "ytfcbnheefipldaa", sum := "a4e7a188bbc10c66b7faa5f0bf3252065e066fdec7e77c52acf4b1a7732c7667", func := "baton/batonlaw11.DriftRuns", spec := "driftRuns", unfollowed := true, recurses := true, apart := false, narrowed := true }
def DriftRunsUptoSaid : Prop := driftRunsUptoRow.holds Try.pinned (OpenSpec.upto driftRunsSpec)

/-- 'batonlaw11.DriftSpans', WHERE WHAT IT READS IS OF BULK AT MOST 1048576: true; the input reads as it did. -/
def driftSpansUptoRow : OpenClaim := { program := "ytfcbnheefipldaa", sum := "a4e7a188bbc10c66b7faa5f0bf3252065e066fdec7e77c52acf4b1a7732c7667", func := "baton/batonlaw11.DriftSpans", spec := "driftSpans", unfollowed := true, recurses := true, apart := false, narrowed := true }
def DriftSpansUptoSaid : Prop := driftSpansUptoRow.holds Try.pinned (OpenSpec.upto driftSpansSpec)

/-- 'batonlaw11.DriftFits', WHERE WHAT IT READS IS OF BULK AT MOST 1048576: true; the input reads as it did. -/
def driftFitsUptoRow : OpenClaim := { program := "ytfcbnheefipldaa", sum := "a4e7a188bbc10c66b7faa5f0bf3252065e066fdec7e77c52acf4b1a7732c7667", func := "baton/batonlaw11.DriftFits", spec := "driftFits", unfollowed := true, recurses := true, apart := false, narrowed := true }
def DriftFitsUptoSaid : Prop := driftFitsUptoRow.holds Try.pinned (OpenSpec.upto driftFitsSpec)

/-- 'batonlaw11.DriftTight', WHERE WHAT IT READS IS OF BULK AT MOST 1048576: true; the input reads as it did. -/
def driftTightUptoRow : OpenClaim := { program := "ytfcbnheefipldaa", sum := "a4e7a188bbc10c66b7faa5f0bf3252065e066fdec7e77c52acf4b1a7732c7667", func := "baton/batonlaw11.DriftTight", spec := "driftTight", unfollowed := true, recurses := true, apart := false, narrowed := true }
def DriftTightUptoSaid : Prop := driftTightUptoRow.holds Try.pinned (OpenSpec.upto driftTightSpec)

/-- 'batonlaw11.DriftBounds', WHERE WHAT IT READS IS OF BULK AT MOST 1048576: true; the input reads as it did. -/
def driftBoundsUptoRow : OpenClaim := { program := "ytfcbnheefipldaa", sum := "a4e7a188bbc10c66b7faa5f0bf3252065e066fdec7e77c52acf4b1a7732c7667", func := "baton/batonlaw11.DriftBounds", spec := "driftBounds", unfollowed := true, recurses := true, apart := false, narrowed := true }
def DriftBoundsUptoSaid : Prop := driftBoundsUptoRow.holds Try.pinned (OpenSpec.upto driftBoundsSpec)

end Rows
end Go.Proofs.Ytfcbnheefipldaa
