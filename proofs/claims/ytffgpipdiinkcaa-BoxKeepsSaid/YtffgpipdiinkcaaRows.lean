/-
  No cell of these rows narrows 'for every input' (looked for: loops, veiled, ifaces, maps, wideKeys, modest, calm, conditions, laid).
  DERIVED. THE GIVEN ROWS OF THIS SEAT. 7 by the template 'for every input the law returns true; each argument reads behind the call as it read before'; 0 by the template 'total and deterministic' (their statements: YtffgpipdiinkcaaTotals.lean).
  GIVEN WITH THE SEED: the statements are not yours to turn. If you find one false, say at which input.
  Laid BY PROGRAM, IN A SANDBOX (cutbox-rows.mjs): the forced cells as the released guide's own fill.sh prints them over the translation e7ea62765636351a… (all of the seat's roots in one cut). By AI agents, Wed Nov 11 2026. No macro, syntax, notation, axiom, sorry.
-/
import Derived.Test.YtffgpipdiinkcaaChecked
import GoSem.Claim
import GoSem.ClaimJoined
import GoSem.ClaimMapViews
import Derived.JoinedTies
import Derived.KernelRfl
namespace Go.Proofs.Ytffgpipdiinkcaa
/- THE CELL 'sum', in the pinned program and in every row, IS THE sha256 OF THE DUMP (.gsa) THAT YtffgpipdiinkcaaProg.lean LOADS. Nothing in Lean hashes anything: it is a label: what it is worth is what the hold of that sum in a sandbox is worth. -/
noncomputable def Try.pinned : Pinned := { name := "ytffgpipdiinkcaa", sum := "e7ea62765636351a479a25af99e4ff442346f06eca8a819c47cebbbcbba086da", checked := Try.checked }
namespace Rows
def none {H : Type} : Left H := { results := [], args := [] }

/-- 'archivumlaw36.BoxChecks': WHATEVER THE INPUT: true; the input reads as it did. -/
def boxChecksSpec : ChangeSpec := { name := "boxChecks", fn := fun _ => fun
  | [d1, d2] => { results := [.lit (.bool true)], args := [d1, d2] }
  | _ => none }
def boxChecksRow : OpenClaim := { program := "ytffgpipdiinkcaa", sum := "e7ea62765636351a479a25af99e4ff442346f06eca8a819c47cebbbcbba086da", func := "archivum/archivumlaw36.BoxChecks", spec := "boxChecks", inPlace := ["slices.overlaps[archivum/api.Content]"], unfollowed := true, recurses := true, apart := false }
def BoxChecksSaid : Prop := boxChecksRow.holds Try.pinned (OpenSpec.ofChange boxChecksSpec)

/-- ITS FALSE NEIGHBOUR: 'it returns false'. Refute it at one input. -/
def boxChecksWrong : ChangeSpec := { name := "boxChecks", fn := fun _ => fun
  | [d1, d2] => { results := [.lit (.bool false)], args := [d1, d2] }
  | _ => none }
def BoxChecksWrongFalsely : Prop := boxChecksRow.holds Try.pinned (OpenSpec.ofChange boxChecksWrong)

/-- 'archivumlaw36.BoxFull': WHATEVER THE INPUT: true; the input reads as it did. -/
def boxFullSpec : ChangeSpec := { name := "boxFull", fn := fun _ => fun
  | [d1, d2, d3] => { results := [.lit (.bool true)], args := [d1, d2, d3] }
  | _ => none }
def boxFullRow : OpenClaim := { program := "ytffgpipdiinkcaa", sum := "e7ea62765636351a479a25af99e4ff442346f06eca8a819c47cebbbcbba086da", func := "archivum/archivumlaw36.BoxFull", spec := "boxFull", inPlace := ["slices.overlaps[archivum/api.Content]"], unfollowed := true, recurses := true, apart := false }
def BoxFullSaid : Prop := boxFullRow.holds Try.pinned (OpenSpec.ofChange boxFullSpec)

/-- ITS FALSE NEIGHBOUR: 'it returns false'. Refute it at one input. -/
def boxFullWrong : ChangeSpec := { name := "boxFull", fn := fun _ => fun
  | [d1, d2, d3] => { results := [.lit (.bool false)], args := [d1, d2, d3] }
  | _ => none }
def BoxFullWrongFalsely : Prop := boxFullRow.holds Try.pinned (OpenSpec.ofChange boxFullWrong)

/-- 'archivumlaw36.BoxPuts': WHATEVER THE INPUT: true; the input reads as it did. -/
def boxPutsSpec : ChangeSpec := { name := "boxPuts", fn := fun _ => fun
  | [d1, d2, d3] => { results := [.lit (.bool true)], args := [d1, d2, d3] }
  | _ => none }
def boxPutsRow : OpenClaim := { program := "ytffgpipdiinkcaa", sum := "e7ea62765636351a479a25af99e4ff442346f06eca8a819c47cebbbcbba086da", func := "archivum/archivumlaw36.BoxPuts", spec := "boxPuts", inPlace := ["slices.overlaps[archivum/api.Content]"], unfollowed := true, recurses := true, apart := false }
def BoxPutsSaid : Prop := boxPutsRow.holds Try.pinned (OpenSpec.ofChange boxPutsSpec)

/-- ITS FALSE NEIGHBOUR: 'it returns false'. Refute it at one input. -/
def boxPutsWrong : ChangeSpec := { name := "boxPuts", fn := fun _ => fun
  | [d1, d2, d3] => { results := [.lit (.bool false)], args := [d1, d2, d3] }
  | _ => none }
def BoxPutsWrongFalsely : Prop := boxPutsRow.holds Try.pinned (OpenSpec.ofChange boxPutsWrong)

/-- 'archivumlaw36.BoxUndone': WHATEVER THE INPUT: true; the input reads as it did. -/
def boxUndoneSpec : ChangeSpec := { name := "boxUndone", fn := fun _ => fun
  | [d1, d2, d3] => { results := [.lit (.bool true)], args := [d1, d2, d3] }
  | _ => none }
def boxUndoneRow : OpenClaim := { program := "ytffgpipdiinkcaa", sum := "e7ea62765636351a479a25af99e4ff442346f06eca8a819c47cebbbcbba086da", func := "archivum/archivumlaw36.BoxUndone", spec := "boxUndone", inPlace := ["slices.overlaps[archivum/api.Content]"], unfollowed := true, recurses := true, apart := false }
def BoxUndoneSaid : Prop := boxUndoneRow.holds Try.pinned (OpenSpec.ofChange boxUndoneSpec)

/-- ITS FALSE NEIGHBOUR: 'it returns false'. Refute it at one input. -/
def boxUndoneWrong : ChangeSpec := { name := "boxUndone", fn := fun _ => fun
  | [d1, d2, d3] => { results := [.lit (.bool false)], args := [d1, d2, d3] }
  | _ => none }
def BoxUndoneWrongFalsely : Prop := boxUndoneRow.holds Try.pinned (OpenSpec.ofChange boxUndoneWrong)

/-- 'archivumlaw36.BoxSplits': WHATEVER THE INPUT: true; the input reads as it did. -/
def boxSplitsSpec : ChangeSpec := { name := "boxSplits", fn := fun _ => fun
  | [d1, d2] => { results := [.lit (.bool true)], args := [d1, d2] }
  | _ => none }
def boxSplitsRow : OpenClaim := { program := "ytffgpipdiinkcaa", sum := "e7ea62765636351a479a25af99e4ff442346f06eca8a819c47cebbbcbba086da", func := "archivum/archivumlaw36.BoxSplits", spec := "boxSplits", inPlace := ["slices.overlaps[archivum/api.Content]"], unfollowed := true, recurses := true, apart := false }
def BoxSplitsSaid : Prop := boxSplitsRow.holds Try.pinned (OpenSpec.ofChange boxSplitsSpec)

/-- ITS FALSE NEIGHBOUR: 'it returns false'. Refute it at one input. -/
def boxSplitsWrong : ChangeSpec := { name := "boxSplits", fn := fun _ => fun
  | [d1, d2] => { results := [.lit (.bool false)], args := [d1, d2] }
  | _ => none }
def BoxSplitsWrongFalsely : Prop := boxSplitsRow.holds Try.pinned (OpenSpec.ofChange boxSplitsWrong)

/-- 'archivumlaw36.BoxRejoined': WHATEVER THE INPUT: true; the input reads as it did. -/
def boxRejoinedSpec : ChangeSpec := { name := "boxRejoined", fn := fun _ => fun
  | [d1, d2] => { results := [.lit (.bool true)], args := [d1, d2] }
  | _ => none }
def boxRejoinedRow : OpenClaim := { program := "ytffgpipdiinkcaa", sum := "e7ea62765636351a479a25af99e4ff442346f06eca8a819c47cebbbcbba086da", func := "archivum/archivumlaw36.BoxRejoined", spec := "boxRejoined", inPlace := ["slices.overlaps[archivum/api.Content]"], unfollowed := true, recurses := true, apart := false }
def BoxRejoinedSaid : Prop := boxRejoinedRow.holds Try.pinned (OpenSpec.ofChange boxRejoinedSpec)

/-- ITS FALSE NEIGHBOUR: 'it returns false'. Refute it at one input. -/
def boxRejoinedWrong : ChangeSpec := { name := "boxRejoined", fn := fun _ => fun
  | [d1, d2] => { results := [.lit (.bool false)], args := [d1, d2] }
  | _ => none }
def BoxRejoinedWrongFalsely : Prop := boxRejoinedRow.holds Try.pinned (OpenSpec.ofChange boxRejoinedWrong)

/-- 'archivumlaw36.BoxKeeps': WHATEVER THE INPUT: true; the input reads as it did. -/
def boxKeepsSpec : ChangeSpec := { name := "boxKeeps", fn := fun _ => fun
  | [d1, d2] => { results := [.lit (.bool true)], args := [d1, d2] }
  | _ => none }
def boxKeepsRow : OpenClaim := { program := "ytffgpipdiinkcaa", sum := "e7ea62765636351a479a25af99e4ff442346f06eca8a819c47cebbbcbba086da", func := "archivum/archivumlaw36.BoxKeeps", spec := "boxKeeps", inPlace := ["slices.overlaps[archivum/api.Content]"], unfollowed := true, recurses := true, apart := false }
def BoxKeepsSaid : Prop := boxKeepsRow.holds Try.pinned (OpenSpec.ofChange boxKeepsSpec)

/-- ITS FALSE NEIGHBOUR: 'it returns false'. Refute it at one input. -/
def boxKeepsWrong : ChangeSpec := { name := "boxKeeps", fn := fun _ => fun
  | [d1, d2] => { results := [.lit (.bool false)], args := [d1, d2] }
  | _ => none }
def BoxKeepsWrongFalsely : Prop := boxKeepsRow.holds Try.pinned (OpenSpec.ofChange boxKeepsWrong)

/- THE SECOND FORM. 'bulk': how many values and letters a reading holds, each counted each time it is reached (what is shared counts as often as it is met; a slice's spare places count too). A statement '..UptoSaid' is the law's where the arguments, and the package variables that the reading takes, are together of bulk at most 1048576: NARROWER than '..Said'. Prove '..Said' where nothing that the law and all that it calls make is longer than what came in: it says more and counts as full. Else prove '..UptoSaid'. A law counts once. -/
mutual
def uptoBulk {H : Type} : DataW H → Nat
  | .lit (.string bytes) => bytes.length + 1
  | .lit _ => 1
  | .nil => 1
  | .ptr d => uptoBulk d + 1
  | .slice elems spare => uptoBulkAll elems + uptoBulkAll spare + 1
  | .agg parts => uptoBulkAll parts + 1
  | .iface _ d => uptoBulk d + 1
  | .map entries => uptoBulkEntries entries + 1
  | .held _ => 1
def uptoBulkAll {H : Type} : List (DataW H) → Nat
  | [] => 0
  | d :: r => uptoBulk d + uptoBulkAll r
def uptoBulkEntries {H : Type} : List (Lit × DataW H) → Nat
  | [] => 0
  | x :: r => uptoBulkEntry x + uptoBulkEntries r
def uptoBulkEntry {H : Type} : Lit × DataW H → Nat
  | (.string bytes, d) => bytes.length + uptoBulk d + 1
  | (_, d) => uptoBulk d + 1
 end
def uptoSmall : (H : Type) → List (DataW H) → Bool := fun _ ds => decide (uptoBulkAll ds ≤ 1048576)
def OpenSpec.upto (s : _root_.Go.ChangeSpec) : _root_.Go.OpenSpec := { _root_.Go.OpenSpec.ofChange s with cond := some uptoSmall }

/-- 'archivumlaw36.BoxChecks', WHERE WHAT IT READS IS OF BULK AT MOST 1048576: true; the input reads as it did. -/
def boxChecksUptoRow : OpenClaim := { program := "ytffgpipdiinkcaa", sum := "e7ea62765636351a479a25af99e4ff442346f06eca8a819c47cebbbcbba086da", func := "archivum/archivumlaw36.BoxChecks", spec := "boxChecks", inPlace := ["slices.overlaps[archivum/api.Content]"], unfollowed := true, recurses := true, apart := false, narrowed := true }
def BoxChecksUptoSaid : Prop := boxChecksUptoRow.holds Try.pinned (OpenSpec.upto boxChecksSpec)

/-- 'archivumlaw36.BoxFull', WHERE WHAT IT READS IS OF BULK AT MOST 1048576: true; the input reads as it did. -/
def boxFullUptoRow : OpenClaim := { program := "ytffgpipdiinkcaa", sum := "e7ea62765636351a479a25af99e4ff442346f06eca8a819c47cebbbcbba086da", func := "archivum/archivumlaw36.BoxFull", spec := "boxFull", inPlace := ["slices.overlaps[archivum/api.Content]"], unfollowed := true, recurses := true, apart := false, narrowed := true }
def BoxFullUptoSaid : Prop := boxFullUptoRow.holds Try.pinned (OpenSpec.upto boxFullSpec)

/-- 'archivumlaw36.BoxPuts', WHERE WHAT IT READS IS OF BULK AT MOST 1048576: true; the input reads as it did. -/
def boxPutsUptoRow : OpenClaim := { program := "ytffgpipdiinkcaa", sum := "e7ea62765636351a479a25af99e4ff442346f06eca8a819c47cebbbcbba086da", func := "archivum/archivumlaw36.BoxPuts", spec := "boxPuts", inPlace := ["slices.overlaps[archivum/api.Content]"], unfollowed := true, recurses := true, apart := false, narrowed := true }
def BoxPutsUptoSaid : Prop := boxPutsUptoRow.holds Try.pinned (OpenSpec.upto boxPutsSpec)

/-- 'archivumlaw36.BoxUndone', WHERE WHAT IT READS IS OF BULK AT MOST 1048576: true; the input reads as it did. -/
def boxUndoneUptoRow : OpenClaim := { program := "ytffgpipdiinkcaa", sum := "e7ea62765636351a479a25af99e4ff442346f06eca8a819c47cebbbcbba086da", func := "archivum/archivumlaw36.BoxUndone", spec := "boxUndone", inPlace := ["slices.overlaps[archivum/api.Content]"], unfollowed := true, recurses := true, apart := false, narrowed := true }
def BoxUndoneUptoSaid : Prop := boxUndoneUptoRow.holds Try.pinned (OpenSpec.upto boxUndoneSpec)

/-- 'archivumlaw36.BoxSplits', WHERE WHAT IT READS IS OF BULK AT MOST 1048576: true; the input reads as it did. -/
def boxSplitsUptoRow : OpenClaim := { program := "ytffgpipdiinkcaa", sum := "e7ea62765636351a479a25af99e4ff442346f06eca8a819c47cebbbcbba086da", func := "archivum/archivumlaw36.BoxSplits", spec := "boxSplits", inPlace := ["slices.overlaps[archivum/api.Content]"], unfollowed := true, recurses := true, apart := false, narrowed := true }
def BoxSplitsUptoSaid : Prop := boxSplitsUptoRow.holds Try.pinned (OpenSpec.upto boxSplitsSpec)

/-- 'archivumlaw36.BoxRejoined', WHERE WHAT IT READS IS OF BULK AT MOST 1048576: true; the input reads as it did. -/
def boxRejoinedUptoRow : OpenClaim := { program := "ytffgpipdiinkcaa", sum := "e7ea62765636351a479a25af99e4ff442346f06eca8a819c47cebbbcbba086da", func := "archivum/archivumlaw36.BoxRejoined", spec := "boxRejoined", inPlace := ["slices.overlaps[archivum/api.Content]"], unfollowed := true, recurses := true, apart := false, narrowed := true }
def BoxRejoinedUptoSaid : Prop := boxRejoinedUptoRow.holds Try.pinned (OpenSpec.upto boxRejoinedSpec)

/-- 'archivumlaw36.BoxKeeps', WHERE WHAT IT READS IS OF BULK AT MOST 1048576: true; the input reads as it did. -/
def boxKeepsUptoRow : OpenClaim := { program := "ytffgpipdiinkcaa", sum := "e7ea62765636351a479a25af99e4ff442346f06eca8a819c47cebbbcbba086da", func := "archivum/archivumlaw36.BoxKeeps", spec := "boxKeeps", inPlace := ["slices.overlaps[archivum/api.Content]"], unfollowed := true, recurses := true, apart := false, narrowed := true }
def BoxKeepsUptoSaid : Prop := boxKeepsUptoRow.holds Try.pinned (OpenSpec.upto boxKeepsSpec)

end Rows
end Go.Proofs.Ytffgpipdiinkcaa
