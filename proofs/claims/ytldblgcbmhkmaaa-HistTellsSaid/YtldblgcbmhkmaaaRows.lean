/-
  No cell of these rows narrows 'for every input' (looked for: loops, veiled, ifaces, maps, wideKeys, modest, calm, conditions, laid).
  DERIVED. THE GIVEN ROWS OF THIS SEAT. 6 by the template 'for every input the law returns true; each argument reads behind the call as it read before'; 0 by the template 'total and deterministic' (their statements: YtldblgcbmhkmaaaTotals.lean).
  GIVEN WITH THE SEED: the statements are not yours to turn. If you find one false, say at which input.
  Laid BY PROGRAM, IN A SANDBOX (cutbox-rows.mjs): the forced cells as the released guide's own fill.sh prints them over the translation fb9a40e573a29436… (all of the seat's roots in one cut). By AI agents, Wed Nov 11 2026. No macro, syntax, notation, axiom, sorry.
-/
import Derived.Test.YtldblgcbmhkmaaaChecked
import GoSem.Claim
import GoSem.ClaimJoined
import GoSem.ClaimMapViews
import Derived.JoinedTies
import Derived.KernelRfl
namespace Go.Proofs.Ytldblgcbmhkmaaa
/- THE CELL 'sum', in the pinned program and in every row, IS THE sha256 OF THE DUMP (.gsa) THAT YtldblgcbmhkmaaaProg.lean LOADS. Nothing in Lean hashes anything: it is a label: what it is worth is what the hold of that sum in a sandbox is worth. -/
noncomputable def Try.pinned : Pinned := { name := "ytldblgcbmhkmaaa", sum := "fb9a40e573a29436f3692f26c19ed2e6c306e7d27b4d6419b3f4db7fb51f68a3", checked := Try.checked }
namespace Rows
def none {H : Type} : Left H := { results := [], args := [] }

/-- 'batonlaw04.HistTells': WHATEVER THE INPUT: true; the input reads as it did. -/
def histTellsSpec : ChangeSpec := { name := "histTells", fn := fun _ => fun
  | [d1, d2] => { results := [.lit (.bool true)], args := [d1, d2] }
  | _ => none }
def histTellsRow : OpenClaim := { program := "ytldblgcbmhkmaaa", sum := "fb9a40e573a29436f3692f26c19ed2e6c306e7d27b4d6419b3f4db7fb51f68a3", func := "baton/batonlaw04.HistTells", spec := "histTells", unfollowed := true, recurses := true, apart := false }
def HistTellsSaid : Prop := histTellsRow.holds Try.pinned (OpenSpec.ofChange histTellsSpec)

/-- ITS FALSE NEIGHBOUR: 'it returns false'. Refute it at one input. -/
def histTellsWrong : ChangeSpec := { name := "histTells", fn := fun _ => fun
  | [d1, d2] => { results := [.lit (.bool false)], args := [d1, d2] }
  | _ => none }
def HistTellsWrongFalsely : Prop := histTellsRow.holds Try.pinned (OpenSpec.ofChange histTellsWrong)

/-- 'batonlaw04.HistLays': WHATEVER THE INPUT: true; the input reads as it did. -/
def histLaysSpec : ChangeSpec := { name := "histLays", fn := fun _ => fun
  | [d1, d2, d3] => { results := [.lit (.bool true)], args := [d1, d2, d3] }
  | _ => none }
def histLaysRow : OpenClaim := { program := "ytldblgcbmhkmaaa", sum := "fb9a40e573a29436f3692f26c19ed2e6c306e7d27b4d6419b3f4db7fb51f68a3", func := "baton/batonlaw04.HistLays", spec := "histLays", unfollowed := true, recurses := true, apart := false }
def HistLaysSaid : Prop := histLaysRow.holds Try.pinned (OpenSpec.ofChange histLaysSpec)

/-- ITS FALSE NEIGHBOUR: 'it returns false'. Refute it at one input. -/
def histLaysWrong : ChangeSpec := { name := "histLays", fn := fun _ => fun
  | [d1, d2, d3] => { results := [.lit (.bool false)], args := [d1, d2, d3] }
  | _ => none }
def HistLaysWrongFalsely : Prop := histLaysRow.holds Try.pinned (OpenSpec.ofChange histLaysWrong)

/-- 'batonlaw04.HistLaid': WHATEVER THE INPUT: true; the input reads as it did. -/
def histLaidSpec : ChangeSpec := { name := "histLaid", fn := fun _ => fun
  | [d1, d2, d3] => { results := [.lit (.bool true)], args := [d1, d2, d3] }
  | _ => none }
def histLaidRow : OpenClaim := { program := "ytldblgcbmhkmaaa", sum := "fb9a40e573a29436f3692f26c19ed2e6c306e7d27b4d6419b3f4db7fb51f68a3", func := "baton/batonlaw04.HistLaid", spec := "histLaid", unfollowed := true, recurses := true, apart := false }
def HistLaidSaid : Prop := histLaidRow.holds Try.pinned (OpenSpec.ofChange histLaidSpec)

/-- ITS FALSE NEIGHBOUR: 'it returns false'. Refute it at one input. -/
def histLaidWrong : ChangeSpec := { name := "histLaid", fn := fun _ => fun
  | [d1, d2, d3] => { results := [.lit (.bool false)], args := [d1, d2, d3] }
  | _ => none }
def HistLaidWrongFalsely : Prop := histLaidRow.holds Try.pinned (OpenSpec.ofChange histLaidWrong)

/-- 'batonlaw04.HistAgain': WHATEVER THE INPUT: true; the input reads as it did. -/
def histAgainSpec : ChangeSpec := { name := "histAgain", fn := fun _ => fun
  | [d1, d2, d3] => { results := [.lit (.bool true)], args := [d1, d2, d3] }
  | _ => none }
def histAgainRow : OpenClaim := { program := "ytldblgcbmhkmaaa", sum := "fb9a40e573a29436f3692f26c19ed2e6c306e7d27b4d6419b3f4db7fb51f68a3", func := "baton/batonlaw04.HistAgain", spec := "histAgain", unfollowed := true, recurses := true, apart := false }
def HistAgainSaid : Prop := histAgainRow.holds Try.pinned (OpenSpec.ofChange histAgainSpec)

/-- ITS FALSE NEIGHBOUR: 'it returns false'. Refute it at one input. -/
def histAgainWrong : ChangeSpec := { name := "histAgain", fn := fun _ => fun
  | [d1, d2, d3] => { results := [.lit (.bool false)], args := [d1, d2, d3] }
  | _ => none }
def HistAgainWrongFalsely : Prop := histAgainRow.holds Try.pinned (OpenSpec.ofChange histAgainWrong)

/-- 'batonlaw04.HistParts': WHATEVER THE INPUT: true; the input reads as it did. -/
def histPartsSpec : ChangeSpec := { name := "histParts", fn := fun _ => fun
  | [d1, d2, d3] => { results := [.lit (.bool true)], args := [d1, d2, d3] }
  | _ => none }
def histPartsRow : OpenClaim := { program := "ytldblgcbmhkmaaa", sum := "fb9a40e573a29436f3692f26c19ed2e6c306e7d27b4d6419b3f4db7fb51f68a3", func := "baton/batonlaw04.HistParts", spec := "histParts", unfollowed := true, recurses := true, apart := false }
def HistPartsSaid : Prop := histPartsRow.holds Try.pinned (OpenSpec.ofChange histPartsSpec)

/-- ITS FALSE NEIGHBOUR: 'it returns false'. Refute it at one input. -/
def histPartsWrong : ChangeSpec := { name := "histParts", fn := fun _ => fun
  | [d1, d2, d3] => { results := [.lit (.bool false)], args := [d1, d2, d3] }
  | _ => none }
def HistPartsWrongFalsely : Prop := histPartsRow.holds Try.pinned (OpenSpec.ofChange histPartsWrong)

/-- 'batonlaw04.HistPrefix': WHATEVER THE INPUT: true; the input reads as it did. -/
def histPrefixSpec : ChangeSpec := { name := "histPrefix", fn := fun _ => fun
  | [d1, d2, d3] => { results := [.lit (.bool true)], args := [d1, d2, d3] }
  | _ => none }
def histPrefixRow : OpenClaim := { program := "ytldblgcbmhkmaaa", sum := "fb9a40e573a29436f3692f26c19ed2e6c306e7d27b4d6419b3f4db7fb51f68a3", func := "baton/batonlaw04.HistPrefix", spec := "histPrefix", unfollowed := true, recurses := true, apart := false }
def HistPrefixSaid : Prop := histPrefixRow.holds Try.pinned (OpenSpec.ofChange histPrefixSpec)

/-- ITS FALSE NEIGHBOUR: 'it returns false'. Refute it at one input. -/
def histPrefixWrong : ChangeSpec := { name := "histPrefix", fn := fun _ => fun
  | [d1, d2, d3] => { results := [.lit (.bool false)], args := [d1, d2, d3] }
  | _ => none }
def HistPrefixWrongFalsely : Prop := histPrefixRow.holds Try.pinned (OpenSpec.ofChange histPrefixWrong)

/- THE SECOND FORM. 'bulk': how many values and letters a reading holds, each counted each time it is reached (what is shared counts as often as it is met; a slice's spare places count too). A statement '..UptoSaid' is the law's where the arguments, and the package variables that the reading takes, are together of bulk at most 1048576: NARROWER than '..Said'. Prove '..Said' where nothing that the law and all that it calls make is longer than what came in: it says more and counts as full. Else prove '..UptoSaid'. A law counts once. -/
mutual
def uptoBulk {H : Type} : DataW H → Nat
  | .lit (.string bytes) => bytes.length + 1
  | .lit _ => 1
  | .nil => 1
  | .ptr d => uptoBulk d + 1
  | .slice elems spare => uptoBulkAll elems + uptoBulkAll spare + 1
  | .agg parts => uptoBulkAll parts + 1
  | .iface _ d => uptoBulk d + 1
  | .map entries => uptoBulkEntries entries + 1
  | .held _ => 1
def uptoBulkAll {H : Type} : List (DataW H) → Nat
  | [] => 0
  | d :: r => uptoBulk d + uptoBulkAll r
def uptoBulkEntries {H : Type} : List (Lit × DataW H) → Nat
  | [] => 0
  | x :: r => uptoBulkEntry x + uptoBulkEntries r
def uptoBulkEntry {H : Type} : Lit × DataW H → Nat
  | (.string bytes, d) => bytes.length + uptoBulk d + 1
  | (_, d) => uptoBulk d + 1
 end
def uptoSmall : (H : Type) → List (DataW H) → Bool := fun _ ds => decide (uptoBulkAll ds ≤ 1048576)
def OpenSpec.upto (s : _root_.Go.ChangeSpec) : _root_.Go.OpenSpec := { _root_.Go.OpenSpec.ofChange s with cond := some uptoSmall }

/-- 'batonlaw04.HistTells', WHERE WHAT IT READS IS OF BULK AT MOST 1048576: true; the input reads as it did. -/
def histTellsUptoRow : OpenClaim := { program := "ytldblgcbmhkmaaa", sum := "fb9a40e573a29436f3692f26c19ed2e6c306e7d27b4d6419b3f4db7fb51f68a3", func := "baton/batonlaw04.HistTells", spec := "histTells", unfollowed := true, recurses := true, apart := false, narrowed := true }
def HistTellsUptoSaid : Prop := histTellsUptoRow.holds Try.pinned (OpenSpec.upto histTellsSpec)

/-- 'batonlaw04.HistLays', WHERE WHAT IT READS IS OF BULK AT MOST 1048576: true; the input reads as it did. -/
def histLaysUptoRow : OpenClaim := { program := "ytldblgcbmhkmaaa", sum := "fb9a40e573a29436f3692f26c19ed2e6c306e7d27b4d6419b3f4db7fb51f68a3", func := "baton/batonlaw04.HistLays", spec := "histLays", unfollowed := true, recurses := true, apart := false, narrowed := true }
def HistLaysUptoSaid : Prop := histLaysUptoRow.holds Try.pinned (OpenSpec.upto histLaysSpec)

/-- 'batonlaw04.HistLaid', WHERE WHAT IT READS IS OF BULK AT MOST 1048576: true; the input reads as it did. -/
def histLaidUptoRow : OpenClaim := { program := "ytldblgcbmhkmaaa", sum := "fb9a40e573a29436f3692f26c19ed2e6c306e7d27b4d6419b3f4db7fb51f68a3", func := "baton/batonlaw04.HistLaid", spec := "histLaid", unfollowed := true, recurses := true, apart := false, narrowed := true }
def HistLaidUptoSaid : Prop := histLaidUptoRow.holds Try.pinned (OpenSpec.upto histLaidSpec)

/-- 'batonlaw04.HistAgain', WHERE WHAT IT READS IS OF BULK AT MOST 1048576: true; the input reads as it did. -/
def histAgainUptoRow : OpenClaim := { program := "ytldblgcbmhkmaaa", sum := "fb9a40e573a29436f3692f26c19ed2e6c306e7d27b4d6419b3f4db7fb51f68a3", func := "baton/batonlaw04.HistAgain", spec := "histAgain", unfollowed := true, recurses := true, apart := false, narrowed := true }
def HistAgainUptoSaid : Prop := histAgainUptoRow.holds Try.pinned (OpenSpec.upto histAgainSpec)

/-- 'batonlaw04.HistParts', WHERE WHAT IT READS IS OF BULK AT MOST 1048576: true; the input reads as it did. -/
def histPartsUptoRow : OpenClaim := { program := "ytldblgcbmhkmaaa", sum := "fb9a40e573a29436f3692f26c19ed2e6c306e7d27b4d6419b3f4db7fb51f68a3", func := "baton/batonlaw04.HistParts", spec := "histParts", unfollowed := true, recurses := true, apart := false, narrowed := true }
def HistPartsUptoSaid : Prop := histPartsUptoRow.holds Try.pinned (OpenSpec.upto histPartsSpec)

/-- 'batonlaw04.HistPrefix', WHERE WHAT IT READS IS OF BULK AT MOST 1048576: true; the input reads as it did. -/
def histPrefixUptoRow : OpenClaim := { program := "ytldblgcbmhkmaaa", sum := "fb9a40e573a29436f3692f26c19ed2e6c306e7d27b4d6419b3f4db7fb51f68a3", func := "baton/batonlaw04.HistPrefix", spec := "histPrefix", unfollowed := true, recurses := true, apart := false, narrowed := true }
def HistPrefixUptoSaid : Prop := histPrefixUptoRow.holds Try.pinned (OpenSpec.upto histPrefixSpec)

end Rows
end Go.Proofs.Ytldblgcbmhkmaaa
