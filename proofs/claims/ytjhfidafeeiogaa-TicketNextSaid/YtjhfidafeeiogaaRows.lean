/-
  No cell of these rows narrows 'for every input' (looked for: loops, veiled, ifaces, maps, wideKeys, modest, calm, conditions, laid).
  DERIVED. THE GIVEN ROWS OF THIS SEAT. 6 by the template 'for every input the law returns true; each argument reads behind the call as it read before'; 0 by the template 'total and deterministic' (their statements: YtjhfidafeeiogaaTotals.lean).
  GIVEN WITH THE SEED: the statements are not yours to turn. If you find one false, say at which input.
  Laid BY PROGRAM, IN A SANDBOX (cutbox-rows.mjs): the forced cells as the released guide's own fill.sh prints them over the translation 8668088d763ab7ac… (all of the seat's roots in one cut). By AI agents, Wed Nov 11 2026. No macro, syntax, notation, axiom, sorry.
-/
import Derived.Test.YtjhfidafeeiogaaChecked
import GoSem.Claim
import GoSem.ClaimJoined
import GoSem.ClaimMapViews
import Derived.JoinedTies
import Derived.KernelRfl
namespace Go.Proofs.Ytjhfidafeeiogaa
/- THE CELL 'sum', in the pinned program and in every row, IS THE sha256 OF THE DUMP (.gsa) THAT YtjhfidafeeiogaaProg.lean LOADS. Nothing in Lean hashes anything: it is a label: what it is worth is what the hold of that sum in a sandbox is worth. -/
noncomputable def Try.pinned : Pinned := { name := "ytjhfidafeeiogaa", sum := "8668088d763ab7acfdbd907ec3cb43d8a32079702b1601116a118a2972e1de9d", checked := Try.checked }
namespace Rows
def none {H : Type} : Left H := { results := [], args := [] }

/-- 'batonlaw15.TicketOrders': WHATEVER THE INPUT: true; the input reads as it did. -/
def ticketOrdersSpec : ChangeSpec := { name := "ticketOrders", fn := fun _ => fun
  | [d1, d2] => { results := [.lit (.bool true)], args := [d1, d2] }
  | _ => none }
def ticketOrdersRow : OpenClaim := { program := "ytjhfidafeeiogaa", sum := "8668088d763ab7acfdbd907ec3cb43d8a32079702b1601116a118a2972e1de9d", func := "baton/batonlaw15.TicketOrders", spec := "ticketOrders", inPlace := ["internal/bytealg.abigen_runtime_cmpstring"], unfollowed := true, recurses := true, apart := false }
def TicketOrdersSaid : Prop := ticketOrdersRow.holds Try.pinned (OpenSpec.ofChange ticketOrdersSpec)

/-- ITS FALSE NEIGHBOUR: 'it returns false'. Refute it at one input. -/
def ticketOrdersWrong : ChangeSpec := { name := "ticketOrders", fn := fun _ => fun
  | [d1, d2] => { results := [.lit (.bool false)], args := [d1, d2] }
  | _ => none }
def TicketOrdersWrongFalsely : Prop := ticketOrdersRow.holds Try.pinned (OpenSpec.ofChange ticketOrdersWrong)

/-- 'batonlaw15.TicketTells': WHATEVER THE INPUT: true; the input reads as it did. -/
def ticketTellsSpec : ChangeSpec := { name := "ticketTells", fn := fun _ => fun
  | [d1, d2, d3] => { results := [.lit (.bool true)], args := [d1, d2, d3] }
  | _ => none }
def ticketTellsRow : OpenClaim := { program := "ytjhfidafeeiogaa", sum := "8668088d763ab7acfdbd907ec3cb43d8a32079702b1601116a118a2972e1de9d", func := "baton/batonlaw15.TicketTells", spec := "ticketTells", inPlace := ["internal/bytealg.abigen_runtime_cmpstring"], unfollowed := true, recurses := true, apart := false }
def TicketTellsSaid : Prop := ticketTellsRow.holds Try.pinned (OpenSpec.ofChange ticketTellsSpec)

/-- ITS FALSE NEIGHBOUR: 'it returns false'. Refute it at one input. -/
def ticketTellsWrong : ChangeSpec := { name := "ticketTells", fn := fun _ => fun
  | [d1, d2, d3] => { results := [.lit (.bool false)], args := [d1, d2, d3] }
  | _ => none }
def TicketTellsWrongFalsely : Prop := ticketTellsRow.holds Try.pinned (OpenSpec.ofChange ticketTellsWrong)

/-- 'batonlaw15.TicketOne': WHATEVER THE INPUT: true; the input reads as it did. -/
def ticketOneSpec : ChangeSpec := { name := "ticketOne", fn := fun _ => fun
  | [d1, d2] => { results := [.lit (.bool true)], args := [d1, d2] }
  | _ => none }
def ticketOneRow : OpenClaim := { program := "ytjhfidafeeiogaa", sum := "8668088d763ab7acfdbd907ec3cb43d8a32079702b1601116a118a2972e1de9d", func := "baton/batonlaw15.TicketOne", spec := "ticketOne", inPlace := ["internal/bytealg.abigen_runtime_cmpstring"], unfollowed := true, recurses := true, apart := false }
def TicketOneSaid : Prop := ticketOneRow.holds Try.pinned (OpenSpec.ofChange ticketOneSpec)

/-- ITS FALSE NEIGHBOUR: 'it returns false'. Refute it at one input. -/
def ticketOneWrong : ChangeSpec := { name := "ticketOne", fn := fun _ => fun
  | [d1, d2] => { results := [.lit (.bool false)], args := [d1, d2] }
  | _ => none }
def TicketOneWrongFalsely : Prop := ticketOneRow.holds Try.pinned (OpenSpec.ofChange ticketOneWrong)

/-- 'batonlaw15.TicketStays': WHATEVER THE INPUT: true; the input reads as it did. -/
def ticketStaysSpec : ChangeSpec := { name := "ticketStays", fn := fun _ => fun
  | [d1, d2, d3] => { results := [.lit (.bool true)], args := [d1, d2, d3] }
  | _ => none }
def ticketStaysRow : OpenClaim := { program := "ytjhfidafeeiogaa", sum := "8668088d763ab7acfdbd907ec3cb43d8a32079702b1601116a118a2972e1de9d", func := "baton/batonlaw15.TicketStays", spec := "ticketStays", inPlace := ["internal/bytealg.abigen_runtime_cmpstring"], unfollowed := true, recurses := true, apart := false }
def TicketStaysSaid : Prop := ticketStaysRow.holds Try.pinned (OpenSpec.ofChange ticketStaysSpec)

/-- ITS FALSE NEIGHBOUR: 'it returns false'. Refute it at one input. -/
def ticketStaysWrong : ChangeSpec := { name := "ticketStays", fn := fun _ => fun
  | [d1, d2, d3] => { results := [.lit (.bool false)], args := [d1, d2, d3] }
  | _ => none }
def TicketStaysWrongFalsely : Prop := ticketStaysRow.holds Try.pinned (OpenSpec.ofChange ticketStaysWrong)

/-- 'batonlaw15.TicketSorts': WHATEVER THE INPUT: true; the input reads as it did. -/
def ticketSortsSpec : ChangeSpec := { name := "ticketSorts", fn := fun _ => fun
  | [d1, d2] => { results := [.lit (.bool true)], args := [d1, d2] }
  | _ => none }
def ticketSortsRow : OpenClaim := { program := "ytjhfidafeeiogaa", sum := "8668088d763ab7acfdbd907ec3cb43d8a32079702b1601116a118a2972e1de9d", func := "baton/batonlaw15.TicketSorts", spec := "ticketSorts", inPlace := ["internal/bytealg.abigen_runtime_cmpstring"], unfollowed := true, recurses := true, apart := false }
def TicketSortsSaid : Prop := ticketSortsRow.holds Try.pinned (OpenSpec.ofChange ticketSortsSpec)

/-- ITS FALSE NEIGHBOUR: 'it returns false'. Refute it at one input. -/
def ticketSortsWrong : ChangeSpec := { name := "ticketSorts", fn := fun _ => fun
  | [d1, d2] => { results := [.lit (.bool false)], args := [d1, d2] }
  | _ => none }
def TicketSortsWrongFalsely : Prop := ticketSortsRow.holds Try.pinned (OpenSpec.ofChange ticketSortsWrong)

/-- 'batonlaw15.TicketNext': WHATEVER THE INPUT: true; the input reads as it did. -/
def ticketNextSpec : ChangeSpec := { name := "ticketNext", fn := fun _ => fun
  | [d1, d2] => { results := [.lit (.bool true)], args := [d1, d2] }
  | _ => none }
def ticketNextRow : OpenClaim := { program := "ytjhfidafeeiogaa", sum := "8668088d763ab7acfdbd907ec3cb43d8a32079702b1601116a118a2972e1de9d", func := "baton/batonlaw15.TicketNext", spec := "ticketNext", inPlace := ["internal/bytealg.abigen_runtime_cmpstring"], unfollowed := true, recurses := true, apart := false }
def TicketNextSaid : Prop := ticketNextRow.holds Try.pinned (OpenSpec.ofChange ticketNextSpec)

/-- ITS FALSE NEIGHBOUR: 'it returns false'. Refute it at one input. -/
def ticketNextWrong : ChangeSpec := { name := "ticketNext", fn := fun _ => fun
  | [d1, d2] => { results := [.lit (.bool false)], args := [d1, d2] }
  | _ => none }
def TicketNextWrongFalsely : Prop := ticketNextRow.holds Try.pinned (OpenSpec.ofChange ticketNextWrong)

/- THE SECOND FORM. 'bulk': how many values and letters a reading holds, each counted each time it is reached (what is shared counts as often as it is met; a slice's spare places count too). A statement '..UptoSaid' is the law's where the arguments, and the package variables that the reading takes, are together of bulk at most 1048576: NARROWER than '..Said'. Prove '..Said' where nothing that the law and all that it calls make is longer than what came in: it says more and counts as full. Else prove '..UptoSaid'. A law counts once. -/
mutual
def uptoBulk {H : Type} : DataW H → Nat
  | .lit (.string bytes) => bytes.length + 1
  | .lit _ => 1
  | .nil => 1
  | .ptr d => uptoBulk d + 1
  | .slice elems spare => uptoBulkAll elems + uptoBulkAll spare + 1
  | .agg parts => uptoBulkAll parts + 1
  | .iface _ d => uptoBulk d + 1
  | .map entries => uptoBulkEntries entries + 1
  | .held _ => 1
def uptoBulkAll {H : Type} : List (DataW H) → Nat
  | [] => 0
  | d :: r => uptoBulk d + uptoBulkAll r
def uptoBulkEntries {H : Type} : List (Lit × DataW H) → Nat
  | [] => 0
  | x :: r => uptoBulkEntry x + uptoBulkEntries r
def uptoBulkEntry {H : Type} : Lit × DataW H → Nat
  | (.string bytes, d) => bytes.length + uptoBulk d + 1
  | (_, d) => uptoBulk d + 1
 end
def uptoSmall : (H : Type) → List (DataW H) → Bool := fun _ ds => decide (uptoBulkAll ds ≤ 1048576)
def OpenSpec.upto (s : _root_.Go.ChangeSpec) : _root_.Go.OpenSpec := { _root_.Go.OpenSpec.ofChange s with cond := some uptoSmall }

/-- 'batonlaw15.TicketOrders', WHERE WHAT IT READS IS OF BULK AT MOST 1048576: true; the input reads as it did. -/
def ticketOrdersUptoRow : OpenClaim := { program := "ytjhfidafeeiogaa", sum := "8668088d763ab7acfdbd907ec3cb43d8a32079702b1601116a118a2972e1de9d", func := "baton/batonlaw15.TicketOrders", spec := "ticketOrders", inPlace := ["internal/bytealg.abigen_runtime_cmpstring"], unfollowed := true, recurses := true, apart := false, narrowed := true }
def TicketOrdersUptoSaid : Prop := ticketOrdersUptoRow.holds Try.pinned (OpenSpec.upto ticketOrdersSpec)

/-- 'batonlaw15.TicketTells', WHERE WHAT IT READS IS OF BULK AT MOST 1048576: true; the input reads as it did. -/
def ticketTellsUptoRow : OpenClaim := { program := "ytjhfidafeeiogaa", sum := "8668088d763ab7acfdbd907ec3cb43d8a32079702b1601116a118a2972e1de9d", func := "baton/batonlaw15.TicketTells", spec := "ticketTells", inPlace := ["internal/bytealg.abigen_runtime_cmpstring"], unfollowed := true, recurses := true, apart := false, narrowed := true }
def TicketTellsUptoSaid : Prop := ticketTellsUptoRow.holds Try.pinned (OpenSpec.upto ticketTellsSpec)

/-- 'batonlaw15.TicketOne', WHERE WHAT IT READS IS OF BULK AT MOST 1048576: true; the input reads as it did. -/
def ticketOneUptoRow : OpenClaim := { program := "ytjhfidafeeiogaa", sum := "8668088d763ab7acfdbd907ec3cb43d8a32079702b1601116a118a2972e1de9d", func := "baton/batonlaw15.TicketOne", spec := "ticketOne", inPlace := ["internal/bytealg.abigen_runtime_cmpstring"], unfollowed := true, recurses := true, apart := false, narrowed := true }
def TicketOneUptoSaid : Prop := ticketOneUptoRow.holds Try.pinned (OpenSpec.upto ticketOneSpec)

/-- 'batonlaw15.TicketStays', WHERE WHAT IT READS IS OF BULK AT MOST 1048576: true; the input reads as it did. -/
def ticketStaysUptoRow : OpenClaim := { program := "ytjhfidafeeiogaa", sum := "8668088d763ab7acfdbd907ec3cb43d8a32079702b1601116a118a2972e1de9d", func := "baton/batonlaw15.TicketStays", spec := "ticketStays", inPlace := ["internal/bytealg.abigen_runtime_cmpstring"], unfollowed := true, recurses := true, apart := false, narrowed := true }
def TicketStaysUptoSaid : Prop := ticketStaysUptoRow.holds Try.pinned (OpenSpec.upto ticketStaysSpec)

/-- 'batonlaw15.TicketSorts', WHERE WHAT IT READS IS OF BULK AT MOST 1048576: true; the input reads as it did. -/
def ticketSortsUptoRow : OpenClaim := { program := "ytjhfidafeeiogaa", sum := "8668088d763ab7acfdbd907ec3cb43d8a32079702b1601116a118a2972e1de9d", func := "baton/batonlaw15.TicketSorts", spec := "ticketSorts", inPlace := ["internal/bytealg.abigen_runtime_cmpstring"], unfollowed := true, recurses := true, apart := false, narrowed := true }
def TicketSortsUptoSaid : Prop := ticketSortsUptoRow.holds Try.pinned (OpenSpec.upto ticketSortsSpec)

/-- 'batonlaw15.TicketNext', WHERE WHAT IT READS IS OF BULK AT MOST 1048576: true; the input reads as it did. -/
def ticketNextUptoRow : OpenClaim := { program := "ytjhfidafeeiogaa", sum := "8668088d763ab7acfdbd907ec3cb43d8a32079702b1601116a118a2972e1de9d", func := "baton/batonlaw15.TicketNext", spec := "ticketNext", inPlace := ["internal/bytealg.abigen_runtime_cmpstring"], unfollowed := true, recurses := true, apart := false, narrowed := true }
def TicketNextUptoSaid : Prop := ticketNextUptoRow.holds Try.pinned (OpenSpec.upto ticketNextSpec)

end Rows
end Go.Proofs.Ytjhfidafeeiogaa
