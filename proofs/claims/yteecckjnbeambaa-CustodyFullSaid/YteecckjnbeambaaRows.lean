/-
  No cell of these rows narrows 'for every input' (looked for: loops, veiled, ifaces, maps, wideKeys, modest, calm, conditions, laid).
  DERIVED. THE GIVEN ROWS OF THIS SEAT. 7 by the template 'for every input the law returns true; each argument reads behind the call as it read before'; 0 by the template 'total and deterministic' (their statements: YteecckjnbeambaaTotals.lean).
  GIVEN WITH THE SEED: the statements are not yours to turn. If you find one false, say at which input.
  Laid BY PROGRAM, IN A SANDBOX (cutbox-rows.mjs): the forced cells as the released guide's own fill.sh prints them over the translation 168f9ef0a201e32e… (all of the seat's roots in one cut). By AI agents, Wed Nov 11 2026. No macro, syntax, notation, axiom, sorry.
-/
import Derived.Test.YteecckjnbeambaaChecked
import GoSem.Claim
import GoSem.ClaimJoined
import GoSem.ClaimMapViews
import Derived.JoinedTies
import Derived.KernelRfl
namespace Go.Proofs.Yteecckjnbeambaa
/- THE CELL 'sum', in the pinned program and in every row, IS THE sha256 OF THE DUMP (.gsa) THAT YteecckjnbeambaaProg.lean LOADS. Nothing in Lean hashes anything: it is a label: what it is worth is what the hold of that sum in a sandbox is worth. -/
noncomputable def Try.pinned : Pinned := { name := "yteecckjnbeambaa", sum := "168f9ef0a201e32e4601e73af80b276c95cd06f82ccde7e02d04ce68b233c6ff", checked := Try.checked }
namespace Rows
def none {H : Type} : Left H := { results := [], args := [] }

/-- 'archivumlaw40.CustodyChecks': WHATEVER THE INPUT: true; the input reads as it did. -/
def custodyChecksSpec : ChangeSpec := { name := "custodyChecks", fn := fun _ => fun
  | [d1, d2] => { results := [.lit (.bool true)], args := [d1, d2] }
  | _ => none }
def custodyChecksRow : OpenClaim := { program := "yteecckjnbeambaa", sum := "168f9ef0a201e32e4601e73af80b276c95cd06f82ccde7e02d04ce68b233c6ff", func := "archivum/archivumlaw40.CustodyChecks", spec := "custodyChecks", unfollowed := true, recurses := true, apart := false }
def CustodyChecksSaid : Prop := custodyChecksRow.holds Try.pinned (OpenSpec.ofChange custodyChecksSpec)

/-- ITS FALSE NEIGHBOUR: 'it returns false'. Refute it at one input. -/
def custodyChecksWrong : ChangeSpec := { name := "custodyChecks", fn := fun _ => fun
  | [d1, d2] => { results := [.lit (.bool false)], args := [d1, d2] }
  | _ => none }
def CustodyChecksWrongFalsely : Prop := custodyChecksRow.holds Try.pinned (OpenSpec.ofChange custodyChecksWrong)

/-- 'archivumlaw40.CustodyFull': WHATEVER THE INPUT: true; the input reads as it did. -/
def custodyFullSpec : ChangeSpec := { name := "custodyFull", fn := fun _ => fun
  | [d1, d2] => { results := [.lit (.bool true)], args := [d1, d2] }
  | _ => none }
def custodyFullRow : OpenClaim := { program := "yteecckjnbeambaa", sum := "168f9ef0a201e32e4601e73af80b276c95cd06f82ccde7e02d04ce68b233c6ff", func := "archivum/archivumlaw40.CustodyFull", spec := "custodyFull", unfollowed := true, recurses := true, apart := false }
def CustodyFullSaid : Prop := custodyFullRow.holds Try.pinned (OpenSpec.ofChange custodyFullSpec)

/-- ITS FALSE NEIGHBOUR: 'it returns false'. Refute it at one input. -/
def custodyFullWrong : ChangeSpec := { name := "custodyFull", fn := fun _ => fun
  | [d1, d2] => { results := [.lit (.bool false)], args := [d1, d2] }
  | _ => none }
def CustodyFullWrongFalsely : Prop := custodyFullRow.holds Try.pinned (OpenSpec.ofChange custodyFullWrong)

/-- 'archivumlaw40.CustodyFinds': WHATEVER THE INPUT: true; the input reads as it did. -/
def custodyFindsSpec : ChangeSpec := { name := "custodyFinds", fn := fun _ => fun
  | [d1, d2, d3] => { results := [.lit (.bool true)], args := [d1, d2, d3] }
  | _ => none }
def custodyFindsRow : OpenClaim := { program := "yteecckjnbeambaa", sum := "168f9ef0a201e32e4601e73af80b276c95cd06f82ccde7e02d04ce68b233c6ff", func := "archivum/archivumlaw40.CustodyFinds", spec := "custodyFinds", unfollowed := true, recurses := true, apart := false }
def CustodyFindsSaid : Prop := custodyFindsRow.holds Try.pinned (OpenSpec.ofChange custodyFindsSpec)

/-- ITS FALSE NEIGHBOUR: 'it returns false'. Refute it at one input. -/
def custodyFindsWrong : ChangeSpec := { name := "custodyFinds", fn := fun _ => fun
  | [d1, d2, d3] => { results := [.lit (.bool false)], args := [d1, d2, d3] }
  | _ => none }
def CustodyFindsWrongFalsely : Prop := custodyFindsRow.holds Try.pinned (OpenSpec.ofChange custodyFindsWrong)

/-- 'archivumlaw40.CustodyCovers': WHATEVER THE INPUT: true; the input reads as it did. -/
def custodyCoversSpec : ChangeSpec := { name := "custodyCovers", fn := fun _ => fun
  | [d1, d2, d3] => { results := [.lit (.bool true)], args := [d1, d2, d3] }
  | _ => none }
def custodyCoversRow : OpenClaim := { program := "yteecckjnbeambaa", sum := "168f9ef0a201e32e4601e73af80b276c95cd06f82ccde7e02d04ce68b233c6ff", func := "archivum/archivumlaw40.CustodyCovers", spec := "custodyCovers", unfollowed := true, recurses := true, apart := false }
def CustodyCoversSaid : Prop := custodyCoversRow.holds Try.pinned (OpenSpec.ofChange custodyCoversSpec)

/-- ITS FALSE NEIGHBOUR: 'it returns false'. Refute it at one input. -/
def custodyCoversWrong : ChangeSpec := { name := "custodyCovers", fn := fun _ => fun
  | [d1, d2, d3] => { results := [.lit (.bool false)], args := [d1, d2, d3] }
  | _ => none }
def CustodyCoversWrongFalsely : Prop := custodyCoversRow.holds Try.pinned (OpenSpec.ofChange custodyCoversWrong)

/-- 'archivumlaw40.CustodyLater': WHATEVER THE INPUT: true; the input reads as it did. -/
def custodyLaterSpec : ChangeSpec := { name := "custodyLater", fn := fun _ => fun
  | [d1, d2, d3] => { results := [.lit (.bool true)], args := [d1, d2, d3] }
  | _ => none }
def custodyLaterRow : OpenClaim := { program := "yteecckjnbeambaa", sum := "168f9ef0a201e32e4601e73af80b276c95cd06f82ccde7e02d04ce68b233c6ff", func := "archivum/archivumlaw40.CustodyLater", spec := "custodyLater", unfollowed := true, recurses := true, apart := false }
def CustodyLaterSaid : Prop := custodyLaterRow.holds Try.pinned (OpenSpec.ofChange custodyLaterSpec)

/-- ITS FALSE NEIGHBOUR: 'it returns false'. Refute it at one input. -/
def custodyLaterWrong : ChangeSpec := { name := "custodyLater", fn := fun _ => fun
  | [d1, d2, d3] => { results := [.lit (.bool false)], args := [d1, d2, d3] }
  | _ => none }
def CustodyLaterWrongFalsely : Prop := custodyLaterRow.holds Try.pinned (OpenSpec.ofChange custodyLaterWrong)

/-- 'archivumlaw40.CustodyStays': WHATEVER THE INPUT: true; the input reads as it did. -/
def custodyStaysSpec : ChangeSpec := { name := "custodyStays", fn := fun _ => fun
  | [d1, d2] => { results := [.lit (.bool true)], args := [d1, d2] }
  | _ => none }
def custodyStaysRow : OpenClaim := { program := "yteecckjnbeambaa", sum := "168f9ef0a201e32e4601e73af80b276c95cd06f82ccde7e02d04ce68b233c6ff", func := "archivum/archivumlaw40.CustodyStays", spec := "custodyStays", unfollowed := true, recurses := true, apart := false }
def CustodyStaysSaid : Prop := custodyStaysRow.holds Try.pinned (OpenSpec.ofChange custodyStaysSpec)

/-- ITS FALSE NEIGHBOUR: 'it returns false'. Refute it at one input. -/
def custodyStaysWrong : ChangeSpec := { name := "custodyStays", fn := fun _ => fun
  | [d1, d2] => { results := [.lit (.bool false)], args := [d1, d2] }
  | _ => none }
def CustodyStaysWrongFalsely : Prop := custodyStaysRow.holds Try.pinned (OpenSpec.ofChange custodyStaysWrong)

/-- 'archivumlaw40.CustodyOne': WHATEVER THE INPUT: true; the input reads as it did. -/
def custodyOneSpec : ChangeSpec := { name := "custodyOne", fn := fun _ => fun
  | [d1, d2] => { results := [.lit (.bool true)], args := [d1, d2] }
  | _ => none }
def custodyOneRow : OpenClaim := { program := "yteecckjnbeambaa", sum := "168f9ef0a201e32e4601e73af80b276c95cd06f82ccde7e02d04ce68b233c6ff", func := "archivum/archivumlaw40.CustodyOne", spec := "custodyOne", unfollowed := true, recurses := true, apart := false }
def CustodyOneSaid : Prop := custodyOneRow.holds Try.pinned (OpenSpec.ofChange custodyOneSpec)

/-- ITS FALSE NEIGHBOUR: 'it returns false'. Refute it at one input. -/
def custodyOneWrong : ChangeSpec := { name := "custodyOne", fn := fun _ => fun
  | [d1, d2] => { results := [.lit (.bool false)], args := [d1, d2] }
  | _ => none }
def CustodyOneWrongFalsely : Prop := custodyOneRow.holds Try.pinned (OpenSpec.ofChange custodyOneWrong)

/- THE SECOND FORM. 'bulk': how many values and letters a reading holds, each counted each time it is reached (what is shared counts as often as it is met; a slice's spare places count too). A statement '..UptoSaid' is the law's where the arguments, and the package variables that the reading takes, are together of bulk at most 1048576: NARROWER than '..Said'. Prove '..Said' where nothing that the law and all that it calls make is longer than what came in: it says more and counts as full. Else prove '..UptoSaid'. A law counts once. -/
mutual
def uptoBulk {H : Type} : DataW H → Nat
  | .lit (.string bytes) => bytes.length + 1
  | .lit _ => 1
  | .nil => 1
  | .ptr d => uptoBulk d + 1
  | .slice elems spare => uptoBulkAll elems + uptoBulkAll spare + 1
  | .agg parts => uptoBulkAll parts + 1
  | .iface _ d => uptoBulk d + 1
  | .map entries => uptoBulkEntries entries + 1
  | .held _ => 1
def uptoBulkAll {H : Type} : List (DataW H) → Nat
  | [] => 0
  | d :: r => uptoBulk d + uptoBulkAll r
def uptoBulkEntries {H : Type} : List (Lit × DataW H) → Nat
  | [] => 0
  | x :: r => uptoBulkEntry x + uptoBulkEntries r
def uptoBulkEntry {H : Type} : Lit × DataW H → Nat
  | (.string bytes, d) => bytes.length + uptoBulk d + 1
  | (_, d) => uptoBulk d + 1
 end
def uptoSmall : (H : Type) → List (DataW H) → Bool := fun _ ds => decide (uptoBulkAll ds ≤ 1048576)
def OpenSpec.upto (s : _root_.Go.ChangeSpec) : _root_.Go.OpenSpec := { _root_.Go.OpenSpec.ofChange s with cond := some uptoSmall }

/-- 'archivumlaw40.CustodyChecks', WHERE WHAT IT READS IS OF BULK AT MOST 1048576: true; the input reads as it did. -/
def custodyChecksUptoRow : OpenClaim := { program := "yteecckjnbeambaa", sum := "168f9ef0a201e32e4601e73af80b276c95cd06f82ccde7e02d04ce68b233c6ff", func := "archivum/archivumlaw40.CustodyChecks", spec := "custodyChecks", unfollowed := true, recurses := true, apart := false, narrowed := true }
def CustodyChecksUptoSaid : Prop := custodyChecksUptoRow.holds Try.pinned (OpenSpec.upto custodyChecksSpec)

/-- 'archivumlaw40.CustodyFull', WHERE WHAT IT READS IS OF BULK AT MOST 1048576: true; the input reads as it did. -/
def custodyFullUptoRow : OpenClaim := { program := "yteecckjnbeambaa", sum := "168f9ef0a201e32e4601e73af80b276c95cd06f82ccde7e02d04ce68b233c6ff", func := "archivum/archivumlaw40.CustodyFull", spec := "custodyFull", unfollowed := true, recurses := true, apart := false, narrowed := true }
def CustodyFullUptoSaid : Prop := custodyFullUptoRow.holds Try.pinned (OpenSpec.upto custodyFullSpec)

/-- 'archivumlaw40.CustodyFinds', WHERE WHAT IT READS IS OF BULK AT MOST 1048576: true; the input reads as it did. -/
def custodyFindsUptoRow : OpenClaim := { program := "yteecckjnbeambaa", sum := "168f9ef0a201e32e4601e73af80b276c95cd06f82ccde7e02d04ce68b233c6ff", func := "archivum/archivumlaw40.CustodyFinds", spec := "custodyFinds", unfollowed := true, recurses := true, apart := false, narrowed := true }
def CustodyFindsUptoSaid : Prop := custodyFindsUptoRow.holds Try.pinned (OpenSpec.upto custodyFindsSpec)

/-- 'archivumlaw40.CustodyCovers', WHERE WHAT IT READS IS OF BULK AT MOST 1048576: true; the input reads as it did. -/
def custodyCoversUptoRow : OpenClaim := { program := "yteecckjnbeambaa", sum := "168f9ef0a201e32e4601e73af80b276c95cd06f82ccde7e02d04ce68b233c6ff", func := "archivum/archivumlaw40.CustodyCovers", spec := "custodyCovers", unfollowed := true, recurses := true, apart := false, narrowed := true }
def CustodyCoversUptoSaid : Prop := custodyCoversUptoRow.holds Try.pinned (OpenSpec.upto custodyCoversSpec)

/-- 'archivumlaw40.CustodyLater', WHERE WHAT IT READS IS OF BULK AT MOST 1048576: true; the input reads as it did. -/
def custodyLaterUptoRow : OpenClaim := { program := "yteecckjnbeambaa", sum := "168f9ef0a201e32e4601e73af80b276c95cd06f82ccde7e02d04ce68b233c6ff", func := "archivum/archivumlaw40.CustodyLater", spec := "custodyLater", unfollowed := true, recurses := true, apart := false, narrowed := true }
def CustodyLaterUptoSaid : Prop := custodyLaterUptoRow.holds Try.pinned (OpenSpec.upto custodyLaterSpec)

/-- 'archivumlaw40.CustodyStays', WHERE WHAT IT READS IS OF BULK AT MOST 1048576: true; the input reads as it did. -/
def custodyStaysUptoRow : OpenClaim := { program := "yteecckjnbeambaa", sum := "168f9ef0a201e32e4601e73af80b276c95cd06f82ccde7e02d04ce68b233c6ff", func := "archivum/archivumlaw40.CustodyStays", spec := "custodyStays", unfollowed := true, recurses := true, apart := false, narrowed := true }
def CustodyStaysUptoSaid : Prop := custodyStaysUptoRow.holds Try.pinned (OpenSpec.upto custodyStaysSpec)

/-- 'archivumlaw40.CustodyOne', WHERE WHAT IT READS IS OF BULK AT MOST 1048576: true; the input reads as it did. -/
def custodyOneUptoRow : OpenClaim := { program := "yteecckjnbeambaa", sum := "168f9ef0a201e32e4601e73af80b276c95cd06f82ccde7e02d04ce68b233c6ff", func := "archivum/archivumlaw40.CustodyOne", spec := "custodyOne", unfollowed := true, recurses := true, apart := false, narrowed := true }
def CustodyOneUptoSaid : Prop := custodyOneUptoRow.holds Try.pinned (OpenSpec.upto custodyOneSpec)

end Rows
end Go.Proofs.Yteecckjnbeambaa
