/-
  No cell of these rows narrows 'for every input' (looked for: loops, veiled, ifaces, maps, wideKeys, modest, calm, conditions, laid).
  DERIVED. THE GIVEN ROWS OF THIS SEAT. 7 by the template 'for every input the law returns true; each argument reads behind the call as it read before'; 0 by the template 'total and deterministic' (their statements: YtgnffeajpmniiaaTotals.lean).
  GIVEN WITH THE SEED: the statements are not yours to turn. If you find one false, say at which input.
  Laid BY PROGRAM, IN A SANDBOX (cutbox-rows.mjs): the forced cells as the released guide's own fill.sh prints them over the translation 3c2ecd58041cccb7… (all of the seat's roots in one cut). By AI agents, Wed Nov 11 2026. No macro, syntax, notation, axiom, sorry.
-/
import Derived.Test.YtgnffeajpmniiaaChecked
import GoSem.Claim
import GoSem.ClaimJoined
import GoSem.ClaimMapViews
import Derived.JoinedTies
import Derived.KernelRfl
namespace Go.Proofs.Ytgnffeajpmniiaa
/- THE CELL 'sum', in the pinned program and in every row, IS THE sha256 OF THE DUMP (.gsa) THAT YtgnffeajpmniiaaProg.lean LOADS. Nothing in Lean hashes anything: it is a label: what it is worth is what the hold of that sum in a sandbox is worth. -/
noncomputable def Try.pinned : Pinned := { name := "ytgnffeajpmniiaa", sum := "3c2ecd58041cccb7fb10e863e1c208541a75c3fd6b9c00cd1fcbcfe50bce13f0", checked := Try.checked }
namespace Rows
def none {H : Type} : Left H := { results := [], args := [] }

/-- 'archivumlaw37.ShelfChecks': WHATEVER THE INPUT: true; the input reads as it did. -/
def shelfChecksSpec : ChangeSpec := { name := "shelfChecks", fn := fun _ => fun
  | [d] => { results := [.lit (.bool true)], args := [d] }
  | _ => none }
def shelfChecksRow : OpenClaim := { program := "ytgnffeajpmniiaa", sum := "3c2ecd58041cccb7fb10e863e1c208541a75c3fd6b9c00cd1fcbcfe50bce13f0", func := "archivum/archivumlaw37.ShelfChecks", spec := "shelfChecks", inPlace := ["slices.overlaps[archivum/api.Stand]", "slices.overlaps[int]"], unfollowed := true, recurses := true, apart := false }
def ShelfChecksSaid : Prop := shelfChecksRow.holds Try.pinned (OpenSpec.ofChange shelfChecksSpec)

/-- ITS FALSE NEIGHBOUR: 'it returns false'. Refute it at one input. -/
def shelfChecksWrong : ChangeSpec := { name := "shelfChecks", fn := fun _ => fun
  | [d] => { results := [.lit (.bool false)], args := [d] }
  | _ => none }
def ShelfChecksWrongFalsely : Prop := shelfChecksRow.holds Try.pinned (OpenSpec.ofChange shelfChecksWrong)

/-- 'archivumlaw37.ShelfFinds': WHATEVER THE INPUT: true; the input reads as it did. -/
def shelfFindsSpec : ChangeSpec := { name := "shelfFinds", fn := fun _ => fun
  | [d1, d2] => { results := [.lit (.bool true)], args := [d1, d2] }
  | _ => none }
def shelfFindsRow : OpenClaim := { program := "ytgnffeajpmniiaa", sum := "3c2ecd58041cccb7fb10e863e1c208541a75c3fd6b9c00cd1fcbcfe50bce13f0", func := "archivum/archivumlaw37.ShelfFinds", spec := "shelfFinds", inPlace := ["slices.overlaps[archivum/api.Stand]", "slices.overlaps[int]"], unfollowed := true, recurses := true, apart := false }
def ShelfFindsSaid : Prop := shelfFindsRow.holds Try.pinned (OpenSpec.ofChange shelfFindsSpec)

/-- ITS FALSE NEIGHBOUR: 'it returns false'. Refute it at one input. -/
def shelfFindsWrong : ChangeSpec := { name := "shelfFinds", fn := fun _ => fun
  | [d1, d2] => { results := [.lit (.bool false)], args := [d1, d2] }
  | _ => none }
def ShelfFindsWrongFalsely : Prop := shelfFindsRow.holds Try.pinned (OpenSpec.ofChange shelfFindsWrong)

/-- 'archivumlaw37.ShelfOffsets': WHATEVER THE INPUT: true; the input reads as it did. -/
def shelfOffsetsSpec : ChangeSpec := { name := "shelfOffsets", fn := fun _ => fun
  | [d] => { results := [.lit (.bool true)], args := [d] }
  | _ => none }
def shelfOffsetsRow : OpenClaim := { program := "ytgnffeajpmniiaa", sum := "3c2ecd58041cccb7fb10e863e1c208541a75c3fd6b9c00cd1fcbcfe50bce13f0", func := "archivum/archivumlaw37.ShelfOffsets", spec := "shelfOffsets", inPlace := ["slices.overlaps[archivum/api.Stand]", "slices.overlaps[int]"], unfollowed := true, recurses := true, apart := false }
def ShelfOffsetsSaid : Prop := shelfOffsetsRow.holds Try.pinned (OpenSpec.ofChange shelfOffsetsSpec)

/-- ITS FALSE NEIGHBOUR: 'it returns false'. Refute it at one input. -/
def shelfOffsetsWrong : ChangeSpec := { name := "shelfOffsets", fn := fun _ => fun
  | [d] => { results := [.lit (.bool false)], args := [d] }
  | _ => none }
def ShelfOffsetsWrongFalsely : Prop := shelfOffsetsRow.holds Try.pinned (OpenSpec.ofChange shelfOffsetsWrong)

/-- 'archivumlaw37.ShelfBest': WHATEVER THE INPUT: true; the input reads as it did. -/
def shelfBestSpec : ChangeSpec := { name := "shelfBest", fn := fun _ => fun
  | [d1, d2, d3] => { results := [.lit (.bool true)], args := [d1, d2, d3] }
  | _ => none }
def shelfBestRow : OpenClaim := { program := "ytgnffeajpmniiaa", sum := "3c2ecd58041cccb7fb10e863e1c208541a75c3fd6b9c00cd1fcbcfe50bce13f0", func := "archivum/archivumlaw37.ShelfBest", spec := "shelfBest", inPlace := ["slices.overlaps[archivum/api.Stand]", "slices.overlaps[int]"], unfollowed := true, recurses := true, apart := false }
def ShelfBestSaid : Prop := shelfBestRow.holds Try.pinned (OpenSpec.ofChange shelfBestSpec)

/-- ITS FALSE NEIGHBOUR: 'it returns false'. Refute it at one input. -/
def shelfBestWrong : ChangeSpec := { name := "shelfBest", fn := fun _ => fun
  | [d1, d2, d3] => { results := [.lit (.bool false)], args := [d1, d2, d3] }
  | _ => none }
def ShelfBestWrongFalsely : Prop := shelfBestRow.holds Try.pinned (OpenSpec.ofChange shelfBestWrong)

/-- 'archivumlaw37.ShelfPlaces': WHATEVER THE INPUT: true; the input reads as it did. -/
def shelfPlacesSpec : ChangeSpec := { name := "shelfPlaces", fn := fun _ => fun
  | [d1, d2, d3] => { results := [.lit (.bool true)], args := [d1, d2, d3] }
  | _ => none }
def shelfPlacesRow : OpenClaim := { program := "ytgnffeajpmniiaa", sum := "3c2ecd58041cccb7fb10e863e1c208541a75c3fd6b9c00cd1fcbcfe50bce13f0", func := "archivum/archivumlaw37.ShelfPlaces", spec := "shelfPlaces", inPlace := ["slices.overlaps[archivum/api.Stand]", "slices.overlaps[int]"], unfollowed := true, recurses := true, apart := false }
def ShelfPlacesSaid : Prop := shelfPlacesRow.holds Try.pinned (OpenSpec.ofChange shelfPlacesSpec)

/-- ITS FALSE NEIGHBOUR: 'it returns false'. Refute it at one input. -/
def shelfPlacesWrong : ChangeSpec := { name := "shelfPlaces", fn := fun _ => fun
  | [d1, d2, d3] => { results := [.lit (.bool false)], args := [d1, d2, d3] }
  | _ => none }
def ShelfPlacesWrongFalsely : Prop := shelfPlacesRow.holds Try.pinned (OpenSpec.ofChange shelfPlacesWrong)

/-- 'archivumlaw37.ShelfUndone': WHATEVER THE INPUT: true; the input reads as it did. -/
def shelfUndoneSpec : ChangeSpec := { name := "shelfUndone", fn := fun _ => fun
  | [d1, d2] => { results := [.lit (.bool true)], args := [d1, d2] }
  | _ => none }
def shelfUndoneRow : OpenClaim := { program := "ytgnffeajpmniiaa", sum := "3c2ecd58041cccb7fb10e863e1c208541a75c3fd6b9c00cd1fcbcfe50bce13f0", func := "archivum/archivumlaw37.ShelfUndone", spec := "shelfUndone", inPlace := ["slices.overlaps[archivum/api.Stand]", "slices.overlaps[int]"], unfollowed := true, recurses := true, apart := false }
def ShelfUndoneSaid : Prop := shelfUndoneRow.holds Try.pinned (OpenSpec.ofChange shelfUndoneSpec)

/-- ITS FALSE NEIGHBOUR: 'it returns false'. Refute it at one input. -/
def shelfUndoneWrong : ChangeSpec := { name := "shelfUndone", fn := fun _ => fun
  | [d1, d2] => { results := [.lit (.bool false)], args := [d1, d2] }
  | _ => none }
def ShelfUndoneWrongFalsely : Prop := shelfUndoneRow.holds Try.pinned (OpenSpec.ofChange shelfUndoneWrong)

/-- 'archivumlaw37.ShelfNever': WHATEVER THE INPUT: true; the input reads as it did. -/
def shelfNeverSpec : ChangeSpec := { name := "shelfNever", fn := fun _ => fun
  | [d1, d2] => { results := [.lit (.bool true)], args := [d1, d2] }
  | _ => none }
def shelfNeverRow : OpenClaim := { program := "ytgnffeajpmniiaa", sum := "3c2ecd58041cccb7fb10e863e1c208541a75c3fd6b9c00cd1fcbcfe50bce13f0", func := "archivum/archivumlaw37.ShelfNever", spec := "shelfNever", inPlace := ["slices.overlaps[archivum/api.Stand]", "slices.overlaps[int]"], unfollowed := true, recurses := true, apart := false }
def ShelfNeverSaid : Prop := shelfNeverRow.holds Try.pinned (OpenSpec.ofChange shelfNeverSpec)

/-- ITS FALSE NEIGHBOUR: 'it returns false'. Refute it at one input. -/
def shelfNeverWrong : ChangeSpec := { name := "shelfNever", fn := fun _ => fun
  | [d1, d2] => { results := [.lit (.bool false)], args := [d1, d2] }
  | _ => none }
def ShelfNeverWrongFalsely : Prop := shelfNeverRow.holds Try.pinned (OpenSpec.ofChange shelfNeverWrong)

/- THE SECOND FORM. 'bulk': how many values and letters a reading holds, each counted each time it is reached (what is shared counts as often as it is met; a slice's spare places count too). A statement '..UptoSaid' is the law's where the arguments, and the package variables that the reading takes, are together of bulk at most 1048576: NARROWER than '..Said'. Prove '..Said' where nothing that the law and all that it calls make is longer than what came in: it says more and counts as full. Else prove '..UptoSaid'. A law counts once. -/
mutual
def uptoBulk {H : Type} : DataW H → Nat
  | .lit (.string bytes) => bytes.length + 1
  | .lit _ => 1
  | .nil => 1
  | .ptr d => uptoBulk d + 1
  | .slice elems spare => uptoBulkAll elems + uptoBulkAll spare + 1
  | .agg parts => uptoBulkAll parts + 1
  | .iface _ d => uptoBulk d + 1
  | .map entries => uptoBulkEntries entries + 1
  | .held _ => 1
def uptoBulkAll {H : Type} : List (DataW H) → Nat
  | [] => 0
  | d :: r => uptoBulk d + uptoBulkAll r
def uptoBulkEntries {H : Type} : List (Lit × DataW H) → Nat
  | [] => 0
  | x :: r => uptoBulkEntry x + uptoBulkEntries r
def uptoBulkEntry {H : Type} : Lit × DataW H → Nat
  | (.string bytes, d) => bytes.length + uptoBulk d + 1
  | (_, d) => uptoBulk d + 1
 end
def uptoSmall : (H : Type) → List (DataW H) → Bool := fun _ ds => decide (uptoBulkAll ds ≤ 1048576)
def OpenSpec.upto (s : _root_.Go.ChangeSpec) : _root_.Go.OpenSpec := { _root_.Go.OpenSpec.ofChange s with cond := some uptoSmall }

/-- 'archivumlaw37.ShelfChecks', WHERE WHAT IT READS IS OF BULK AT MOST 1048576: true; the input reads as it did. -/
def shelfChecksUptoRow : OpenClaim := { program := "ytgnffeajpmniiaa", sum := "3c2ecd58041cccb7fb10e863e1c208541a75c3fd6b9c00cd1fcbcfe50bce13f0", func := "archivum/archivumlaw37.ShelfChecks", spec := "shelfChecks", inPlace := ["slices.overlaps[archivum/api.Stand]", "slices.overlaps[int]"], unfollowed := true, recurses := true, apart := false, narrowed := true }
def ShelfChecksUptoSaid : Prop := shelfChecksUptoRow.holds Try.pinned (OpenSpec.upto shelfChecksSpec)

/-- 'archivumlaw37.ShelfFinds', WHERE WHAT IT READS IS OF BULK AT MOST 1048576: true; the input reads as it did. -/
def shelfFindsUptoRow : OpenClaim := { program := "ytgnffeajpmniiaa", sum := "3c2ecd58041cccb7fb10e863e1c208541a75c3fd6b9c00cd1fcbcfe50bce13f0", func := "archivum/archivumlaw37.ShelfFinds", spec := "shelfFinds", inPlace := ["slices.overlaps[archivum/api.Stand]", "slices.overlaps[int]"], unfollowed := true, recurses := true, apart := false, narrowed := true }
def ShelfFindsUptoSaid : Prop := shelfFindsUptoRow.holds Try.pinned (OpenSpec.upto shelfFindsSpec)

/-- 'archivumlaw37.ShelfOffsets', WHERE WHAT IT READS IS OF BULK AT MOST 1048576: true; the input reads as it did. -/
def shelfOffsetsUptoRow : OpenClaim := { program := "ytgnffeajpmniiaa", sum := "3c2ecd58041cccb7fb10e863e1c208541a75c3fd6b9c00cd1fcbcfe50bce13f0", func := "archivum/archivumlaw37.ShelfOffsets", spec := "shelfOffsets", inPlace := ["slices.overlaps[archivum/api.Stand]", "slices.overlaps[int]"], unfollowed := true, recurses := true, apart := false, narrowed := true }
def ShelfOffsetsUptoSaid : Prop := shelfOffsetsUptoRow.holds Try.pinned (OpenSpec.upto shelfOffsetsSpec)

/-- 'archivumlaw37.ShelfBest', WHERE WHAT IT READS IS OF BULK AT MOST 1048576: true; the input reads as it did. -/
def shelfBestUptoRow : OpenClaim := { program := "ytgnffeajpmniiaa", sum := "3c2ecd58041cccb7fb10e863e1c208541a75c3fd6b9c00cd1fcbcfe50bce13f0", func := "archivum/archivumlaw37.ShelfBest", spec := "shelfBest", inPlace := ["slices.overlaps[archivum/api.Stand]", "slices.overlaps[int]"], unfollowed := true, recurses := true, apart := false, narrowed := true }
def ShelfBestUptoSaid : Prop := shelfBestUptoRow.holds Try.pinned (OpenSpec.upto shelfBestSpec)

/-- 'archivumlaw37.ShelfPlaces', WHERE WHAT IT READS IS OF BULK AT MOST 1048576: true; the input reads as it did. -/
def shelfPlacesUptoRow : OpenClaim := { program := "ytgnffeajpmniiaa", sum := "3c2ecd58041cccb7fb10e863e1c208541a75c3fd6b9c00cd1fcbcfe50bce13f0", func := "archivum/archivumlaw37.ShelfPlaces", spec := "shelfPlaces", inPlace := ["slices.overlaps[archivum/api.Stand]", "slices.overlaps[int]"], unfollowed := true, recurses := true, apart := false, narrowed := true }
def ShelfPlacesUptoSaid : Prop := shelfPlacesUptoRow.holds Try.pinned (OpenSpec.upto shelfPlacesSpec)

/-- 'archivumlaw37.ShelfUndone', WHERE WHAT IT READS IS OF BULK AT MOST 1048576: true; the input reads as it did. -/
def shelfUndoneUptoRow : OpenClaim := { program := "ytgnffeajpmniiaa", sum := "3c2ecd58041cccb7fb10e863e1c208541a75c3fd6b9c00cd1fcbcfe50bce13f0", func := "archivum/archivumlaw37.ShelfUndone", spec := "shelfUndone", inPlace := ["slices.overlaps[archivum/api.Stand]", "slices.overlaps[int]"], unfollowed := true, recurses := true, apart := false, narrowed := true }
def ShelfUndoneUptoSaid : Prop := shelfUndoneUptoRow.holds Try.pinned (OpenSpec.upto shelfUndoneSpec)

/-- 'archivumlaw37.ShelfNever', WHERE WHAT IT READS IS OF BULK AT MOST 1048576: true; the input reads as it did. -/
def shelfNeverUptoRow : OpenClaim := { program := "ytgnffeajpmniiaa", sum := "3c2ecd58041cccb7fb10e863e1c208541a75c3fd6b9c00cd1fcbcfe50bce13f0", func := "archivum/archivumlaw37.ShelfNever", spec := "shelfNever", inPlace := ["slices.overlaps[archivum/api.Stand]", "slices.overlaps[int]"], unfollowed := true, recurses := true, apart := false, narrowed := true }
def ShelfNeverUptoSaid : Prop := shelfNeverUptoRow.holds Try.pinned (OpenSpec.upto shelfNeverSpec)

end Rows
end Go.Proofs.Ytgnffeajpmniiaa
