/-
  No cell of these rows narrows 'for every input' (looked for: loops, veiled, ifaces, maps, wideKeys, modest, calm, conditions, laid).
  DERIVED. THE GIVEN ROWS OF THIS SEAT. 6 by the template 'for every input the law returns true; each argument reads behind the call as it read before'; 0 by the template 'total and deterministic' (their statements: YtaebmmjhokjdbaaTotals.lean).
  GIVEN WITH THE SEED: the statements are not yours to turn. If you find one false, say at which input.
  Laid BY PROGRAM, IN A SANDBOX (cutbox-rows.mjs): the forced cells as the released guide's own fill.sh prints them over the translation 86e094422b4d2484… (all of the seat's roots in one cut). By AI agents, Wed Nov 11 2026. No macro, syntax, notation, axiom, sorry.
-/
import Derived.Test.YtaebmmjhokjdbaaChecked
import GoSem.Claim
import GoSem.ClaimJoined
import GoSem.ClaimMapViews
import Derived.JoinedTies
import Derived.KernelRfl
namespace Go.Proofs.Ytaebmmjhokjdbaa
/- THE CELL 'sum', in the pinned program and in every row, IS THE sha256 OF THE DUMP (.gsa) THAT YtaebmmjhokjdbaaProg.lean LOADS. Nothing in Lean hashes anything: it is a label: what it is worth is what the hold of that sum in a sandbox is worth. -/
noncomputable def Try.pinned : Pinned := { name := "ytaebmmjhokjdbaa", sum := "86e094422b4d2484d238b5b7986bb7aece606c728d720999bd05409e13ecaabd", checked := Try.checked }
namespace Rows
def none {H : Type} : Left H := { results := [], args := [] }

/-- 'batonlaw17.ElectTells': WHATEVER THE INPUT: true; the input reads as it did. -/
def electTellsSpec : ChangeSpec := { name := "electTells", fn := fun _ => fun
  | [d1, d2] => { results := [.lit (.bool true)], args := [d1, d2] }
  | _ => none }
def electTellsRow : OpenClaim := { program := "ytaebmmjhokjdbaa", sum := "86e094422b4d2484d238b5b7986bb7aece606c728d720999bd05409e13ecaabd", func := "baton/batonlaw17.ElectTells", spec := "electTells", inPlace := ["internal/bytealg.abigen_runtime_cmpstring"], unfollowed := true, recurses := true, apart := false }
def ElectTellsSaid : Prop := electTellsRow.holds Try.pinned (OpenSpec.ofChange electTellsSpec)

/-- ITS FALSE NEIGHBOUR: 'it returns false'. Refute it at one input. -/
def electTellsWrong : ChangeSpec := { name := "electTells", fn := fun _ => fun
  | [d1, d2] => { results := [.lit (.bool false)], args := [d1, d2] }
  | _ => none }
def ElectTellsWrongFalsely : Prop := electTellsRow.holds Try.pinned (OpenSpec.ofChange electTellsWrong)

/-- 'batonlaw17.ElectFollows': WHATEVER THE INPUT: true; the input reads as it did. -/
def electFollowsSpec : ChangeSpec := { name := "electFollows", fn := fun _ => fun
  | [d1, d2] => { results := [.lit (.bool true)], args := [d1, d2] }
  | _ => none }
def electFollowsRow : OpenClaim := { program := "ytaebmmjhokjdbaa", sum := "86e094422b4d2484d238b5b7986bb7aece606c728d720999bd05409e13ecaabd", func := "baton/batonlaw17.ElectFollows", spec := "electFollows", inPlace := ["internal/bytealg.abigen_runtime_cmpstring"], unfollowed := true, recurses := true, apart := false }
def ElectFollowsSaid : Prop := electFollowsRow.holds Try.pinned (OpenSpec.ofChange electFollowsSpec)

/-- ITS FALSE NEIGHBOUR: 'it returns false'. Refute it at one input. -/
def electFollowsWrong : ChangeSpec := { name := "electFollows", fn := fun _ => fun
  | [d1, d2] => { results := [.lit (.bool false)], args := [d1, d2] }
  | _ => none }
def ElectFollowsWrongFalsely : Prop := electFollowsRow.holds Try.pinned (OpenSpec.ofChange electFollowsWrong)

/-- 'batonlaw17.ElectTerms': WHATEVER THE INPUT: true; the input reads as it did. -/
def electTermsSpec : ChangeSpec := { name := "electTerms", fn := fun _ => fun
  | [d1, d2, d3] => { results := [.lit (.bool true)], args := [d1, d2, d3] }
  | _ => none }
def electTermsRow : OpenClaim := { program := "ytaebmmjhokjdbaa", sum := "86e094422b4d2484d238b5b7986bb7aece606c728d720999bd05409e13ecaabd", func := "baton/batonlaw17.ElectTerms", spec := "electTerms", inPlace := ["internal/bytealg.abigen_runtime_cmpstring"], unfollowed := true, recurses := true, apart := false }
def ElectTermsSaid : Prop := electTermsRow.holds Try.pinned (OpenSpec.ofChange electTermsSpec)

/-- ITS FALSE NEIGHBOUR: 'it returns false'. Refute it at one input. -/
def electTermsWrong : ChangeSpec := { name := "electTerms", fn := fun _ => fun
  | [d1, d2, d3] => { results := [.lit (.bool false)], args := [d1, d2, d3] }
  | _ => none }
def ElectTermsWrongFalsely : Prop := electTermsRow.holds Try.pinned (OpenSpec.ofChange electTermsWrong)

/-- 'batonlaw17.ElectParts': WHATEVER THE INPUT: true; the input reads as it did. -/
def electPartsSpec : ChangeSpec := { name := "electParts", fn := fun _ => fun
  | [d1, d2, d3] => { results := [.lit (.bool true)], args := [d1, d2, d3] }
  | _ => none }
def electPartsRow : OpenClaim := { program := "ytaebmmjhokjdbaa", sum := "86e094422b4d2484d238b5b7986bb7aece606c728d720999bd05409e13ecaabd", func := "baton/batonlaw17.ElectParts", spec := "electParts", inPlace := ["internal/bytealg.abigen_runtime_cmpstring"], unfollowed := true, recurses := true, apart := false }
def ElectPartsSaid : Prop := electPartsRow.holds Try.pinned (OpenSpec.ofChange electPartsSpec)

/-- ITS FALSE NEIGHBOUR: 'it returns false'. Refute it at one input. -/
def electPartsWrong : ChangeSpec := { name := "electParts", fn := fun _ => fun
  | [d1, d2, d3] => { results := [.lit (.bool false)], args := [d1, d2, d3] }
  | _ => none }
def ElectPartsWrongFalsely : Prop := electPartsRow.holds Try.pinned (OpenSpec.ofChange electPartsWrong)

/-- 'batonlaw17.ElectLeads': WHATEVER THE INPUT: true; the input reads as it did. -/
def electLeadsSpec : ChangeSpec := { name := "electLeads", fn := fun _ => fun
  | [d1, d2] => { results := [.lit (.bool true)], args := [d1, d2] }
  | _ => none }
def electLeadsRow : OpenClaim := { program := "ytaebmmjhokjdbaa", sum := "86e094422b4d2484d238b5b7986bb7aece606c728d720999bd05409e13ecaabd", func := "baton/batonlaw17.ElectLeads", spec := "electLeads", inPlace := ["internal/bytealg.abigen_runtime_cmpstring"], unfollowed := true, recurses := true, apart := false }
def ElectLeadsSaid : Prop := electLeadsRow.holds Try.pinned (OpenSpec.ofChange electLeadsSpec)

/-- ITS FALSE NEIGHBOUR: 'it returns false'. Refute it at one input. -/
def electLeadsWrong : ChangeSpec := { name := "electLeads", fn := fun _ => fun
  | [d1, d2] => { results := [.lit (.bool false)], args := [d1, d2] }
  | _ => none }
def ElectLeadsWrongFalsely : Prop := electLeadsRow.holds Try.pinned (OpenSpec.ofChange electLeadsWrong)

/-- 'batonlaw17.ElectSays': WHATEVER THE INPUT: true; the input reads as it did. -/
def electSaysSpec : ChangeSpec := { name := "electSays", fn := fun _ => fun
  | [d1, d2, d3] => { results := [.lit (.bool true)], args := [d1, d2, d3] }
  | _ => none }
def electSaysRow : OpenClaim := { program := "ytaebmmjhokjdbaa", sum := "86e094422b4d2484d238b5b7986bb7aece606c728d720999bd05409e13ecaabd", func := "baton/batonlaw17.ElectSays", spec := "electSays", inPlace := ["internal/bytealg.abigen_runtime_cmpstring"], unfollowed := true, recurses := true, apart := false }
def ElectSaysSaid : Prop := electSaysRow.holds Try.pinned (OpenSpec.ofChange electSaysSpec)

/-- ITS FALSE NEIGHBOUR: 'it returns false'. Refute it at one input. -/
def electSaysWrong : ChangeSpec := { name := "electSays", fn := fun _ => fun
  | [d1, d2, d3] => { results := [.lit (.bool false)], args := [d1, d2, d3] }
  | _ => none }
def ElectSaysWrongFalsely : Prop := electSaysRow.holds Try.pinned (OpenSpec.ofChange electSaysWrong)

/- THE SECOND FORM. 'bulk': how many values and letters a reading holds, each counted each time it is reached (what is shared counts as often as it is met; a slice's spare places count too). A statement '..UptoSaid' is the law's where the arguments, and the package variables that the reading takes, are together of bulk at most 1048576: NARROWER than '..Said'. Prove '..Said' where nothing that the law and all that it calls make is longer than what came in: it says more and counts as full. Else prove '..UptoSaid'. A law counts once. -/
mutual
def uptoBulk {H : Type} : DataW H → Nat
  | .lit (.string bytes) => bytes.length + 1
  | .lit _ => 1
  | .nil => 1
  | .ptr d => uptoBulk d + 1
  | .slice elems spare => uptoBulkAll elems + uptoBulkAll spare + 1
  | .agg parts => uptoBulkAll parts + 1
  | .iface _ d => uptoBulk d + 1
  | .map entries => uptoBulkEntries entries + 1
  | .held _ => 1
def uptoBulkAll {H : Type} : List (DataW H) → Nat
  | [] => 0
  | d :: r => uptoBulk d + uptoBulkAll r
def uptoBulkEntries {H : Type} : List (Lit × DataW H) → Nat
  | [] => 0
  | x :: r => uptoBulkEntry x + uptoBulkEntries r
def uptoBulkEntry {H : Type} : Lit × DataW H → Nat
  | (.string bytes, d) => bytes.length + uptoBulk d + 1
  | (_, d) => uptoBulk d + 1
 end
def uptoSmall : (H : Type) → List (DataW H) → Bool := fun _ ds => decide (uptoBulkAll ds ≤ 1048576)
def OpenSpec.upto (s : _root_.Go.ChangeSpec) : _root_.Go.OpenSpec := { _root_.Go.OpenSpec.ofChange s with cond := some uptoSmall }

/-- 'batonlaw17.ElectTells', WHERE WHAT IT READS IS OF BULK AT MOST 1048576: true; the input reads as it did. -/
def electTellsUptoRow : OpenClaim := { program := "ytaebmmjhokjdbaa", sum := "86e094422b4d2484d238b5b7986bb7aece606c728d720999bd05409e13ecaabd", func := "baton/batonlaw17.ElectTells", spec := "electTells", inPlace := ["internal/bytealg.abigen_runtime_cmpstring"], unfollowed := true, recurses := true, apart := false, narrowed := true }
def ElectTellsUptoSaid : Prop := electTellsUptoRow.holds Try.pinned (OpenSpec.upto electTellsSpec)

/-- 'batonlaw17.ElectFollows', WHERE WHAT IT READS IS OF BULK AT MOST 1048576: true; the input reads as it did. -/
def electFollowsUptoRow : OpenClaim := { program := "ytaebmmjhokjdbaa", sum := "86e094422b4d2484d238b5b7986bb7aece606c728d720999bd05409e13ecaabd", func := "baton/batonlaw17.ElectFollows", spec := "electFollows", inPlace := ["internal/bytealg.abigen_runtime_cmpstring"], unfollowed := true, recurses := true, apart := false, narrowed := true }
def ElectFollowsUptoSaid : Prop := electFollowsUptoRow.holds Try.pinned (OpenSpec.upto electFollowsSpec)

/-- 'batonlaw17.ElectTerms', WHERE WHAT IT READS IS OF BULK AT MOST 1048576: true; the input reads as it did. -/
def electTermsUptoRow : OpenClaim := { program := "ytaebmmjhokjdbaa", sum := "86e094422b4d2484d238b5b7986bb7aece606c728d720999bd05409e13ecaabd", func := "baton/batonlaw17.ElectTerms", spec := "electTerms", inPlace := ["internal/bytealg.abigen_runtime_cmpstring"], unfollowed := true, recurses := true, apart := false, narrowed := true }
def ElectTermsUptoSaid : Prop := electTermsUptoRow.holds Try.pinned (OpenSpec.upto electTermsSpec)

/-- 'batonlaw17.ElectParts', WHERE WHAT IT READS IS OF BULK AT MOST 1048576: true; the input reads as it did. -/
def electPartsUptoRow : OpenClaim := { program := "ytaebmmjhokjdbaa", sum := "86e094422b4d2484d238b5b7986bb7aece606c728d720999bd05409e13ecaabd", func := "baton/batonlaw17.ElectParts", spec := "electParts", inPlace := ["internal/bytealg.abigen_runtime_cmpstring"], unfollowed := true, recurses := true, apart := false, narrowed := true }
def ElectPartsUptoSaid : Prop := electPartsUptoRow.holds Try.pinned (OpenSpec.upto electPartsSpec)

/-- 'batonlaw17.ElectLeads', WHERE WHAT IT READS IS OF BULK AT MOST 1048576: true; the input reads as it did. -/
def electLeadsUptoRow : OpenClaim := { program := "ytaebmmjhokjdbaa", sum := "86e094422b4d2484d238b5b7986bb7aece606c728d720999bd05409e13ecaabd", func := "baton/batonlaw17.ElectLeads", spec := "electLeads", inPlace := ["internal/bytealg.abigen_runtime_cmpstring"], unfollowed := true, recurses := true, apart := false, narrowed := true }
def ElectLeadsUptoSaid : Prop := electLeadsUptoRow.holds Try.pinned (OpenSpec.upto electLeadsSpec)

/-- 'batonlaw17.ElectSays', WHERE WHAT IT READS IS OF BULK AT MOST 1048576: true; the input reads as it did. -/
def electSaysUptoRow : OpenClaim := { program := "ytaebmmjhokjdbaa", sum := "86e094422b4d2484d238b5b7986bb7aece606c728d720999bd05409e13ecaabd", func := "baton/batonlaw17.ElectSays", spec := "electSays", inPlace := ["internal/bytealg.abigen_runtime_cmpstring"], unfollowed := true, recurses := true, apart := false, narrowed := true }
def ElectSaysUptoSaid : Prop := electSaysUptoRow.holds Try.pinned (OpenSpec.upto electSaysSpec)

end Rows
end Go.Proofs.Ytaebmmjhokjdbaa
