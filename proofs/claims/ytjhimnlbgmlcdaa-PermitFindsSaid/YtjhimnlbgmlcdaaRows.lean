/-
  No cell of these rows narrows 'for every input' (looked for: loops, veiled, ifaces, maps, wideKeys, modest, calm, conditions, laid).
  DERIVED. THE GIVEN ROWS OF THIS SEAT. 8 by the template 'for every input the law returns true; each argument reads behind the call as it read before'; 0 by the template 'total and deterministic' (their statements: YtjhimnlbgmlcdaaTotals.lean).
  GIVEN WITH THE SEED: the statements are not yours to turn. If you find one false, say at which input.
  Laid BY PROGRAM, IN A SANDBOX (cutbox-rows.mjs): the forced cells as the released guide's own fill.sh prints them over the translation 4d0ca2f446b46ca9… (all of the seat's roots in one cut). By AI agents, Wed Nov 11 2026. No macro, syntax, notation, axiom, sorry.
-/
import Derived.Test.YtjhimnlbgmlcdaaChecked
import GoSem.Claim
import GoSem.ClaimJoined
import GoSem.ClaimMapViews
import Derived.JoinedTies
import Derived.KernelRfl
namespace Go.Proofs.Ytjhimnlbgmlcdaa
/- THE CELL 'sum', in the pinned program and in every row, IS THE sha256 OF THE DUMP (.gsa) THAT YtjhimnlbgmlcdaaProg.lean LOADS. Nothing in Lean hashes anything: it is a label: what it is worth is what the hold of that sum in a sandbox is worth. -/
noncomputable def Try.pinned : Pinned := { name := "ytjhimnlbgmlcdaa", sum := "4d0ca2f446b46ca96127f0a04b7a70e20e4c812274f3c1acf454463bb6d47316", checked := Try.checked }
namespace Rows
def none {H : Type} : Left H := { results := [], args := [] }

/-- 'archivumlaw34.PermitChecks': WHATEVER THE INPUT: true; the input reads as it did. -/
def permitChecksSpec : ChangeSpec := { name := "permitChecks", fn := fun _ => fun
  | [d1, d2] => { results := [.lit (.bool true)], args := [d1, d2] }
  | _ => none }
def permitChecksRow : OpenClaim := { program := "ytjhimnlbgmlcdaa", sum := "4d0ca2f446b46ca96127f0a04b7a70e20e4c812274f3c1acf454463bb6d47316", func := "archivum/archivumlaw34.PermitChecks", spec := "permitChecks", unfollowed := true, recurses := true, apart := false }
def PermitChecksSaid : Prop := permitChecksRow.holds Try.pinned (OpenSpec.ofChange permitChecksSpec)

/-- ITS FALSE NEIGHBOUR: 'it returns false'. Refute it at one input. -/
def permitChecksWrong : ChangeSpec := { name := "permitChecks", fn := fun _ => fun
  | [d1, d2] => { results := [.lit (.bool false)], args := [d1, d2] }
  | _ => none }
def PermitChecksWrongFalsely : Prop := permitChecksRow.holds Try.pinned (OpenSpec.ofChange permitChecksWrong)

/-- 'archivumlaw34.PermitGrants': WHATEVER THE INPUT: true; the input reads as it did. -/
def permitGrantsSpec : ChangeSpec := { name := "permitGrants", fn := fun _ => fun
  | [d1, d2, d3] => { results := [.lit (.bool true)], args := [d1, d2, d3] }
  | _ => none }
def permitGrantsRow : OpenClaim := { program := "ytjhimnlbgmlcdaa", sum := "4d0ca2f446b46ca96127f0a04b7a70e20e4c812274f3c1acf454463bb6d47316", func := "archivum/archivumlaw34.PermitGrants", spec := "permitGrants", unfollowed := true, recurses := true, apart := false }
def PermitGrantsSaid : Prop := permitGrantsRow.holds Try.pinned (OpenSpec.ofChange permitGrantsSpec)

/-- ITS FALSE NEIGHBOUR: 'it returns false'. Refute it at one input. -/
def permitGrantsWrong : ChangeSpec := { name := "permitGrants", fn := fun _ => fun
  | [d1, d2, d3] => { results := [.lit (.bool false)], args := [d1, d2, d3] }
  | _ => none }
def PermitGrantsWrongFalsely : Prop := permitGrantsRow.holds Try.pinned (OpenSpec.ofChange permitGrantsWrong)

/-- 'archivumlaw34.PermitGives': WHATEVER THE INPUT: true; the input reads as it did. -/
def permitGivesSpec : ChangeSpec := { name := "permitGives", fn := fun _ => fun
  | [d1, d2, d3] => { results := [.lit (.bool true)], args := [d1, d2, d3] }
  | _ => none }
def permitGivesRow : OpenClaim := { program := "ytjhimnlbgmlcdaa", sum := "4d0ca2f446b46ca96127f0a04b7a70e20e4c812274f3c1acf454463bb6d47316", func := "archivum/archivumlaw34.PermitGives", spec := "permitGives", unfollowed := true, recurses := true, apart := false }
def PermitGivesSaid : Prop := permitGivesRow.holds Try.pinned (OpenSpec.ofChange permitGivesSpec)

/-- ITS FALSE NEIGHBOUR: 'it returns false'. Refute it at one input. -/
def permitGivesWrong : ChangeSpec := { name := "permitGives", fn := fun _ => fun
  | [d1, d2, d3] => { results := [.lit (.bool false)], args := [d1, d2, d3] }
  | _ => none }
def PermitGivesWrongFalsely : Prop := permitGivesRow.holds Try.pinned (OpenSpec.ofChange permitGivesWrong)

/-- 'archivumlaw34.PermitBits': WHATEVER THE INPUT: true; the input reads as it did. -/
def permitBitsSpec : ChangeSpec := { name := "permitBits", fn := fun _ => fun
  | [d1, d2] => { results := [.lit (.bool true)], args := [d1, d2] }
  | _ => none }
def permitBitsRow : OpenClaim := { program := "ytjhimnlbgmlcdaa", sum := "4d0ca2f446b46ca96127f0a04b7a70e20e4c812274f3c1acf454463bb6d47316", func := "archivum/archivumlaw34.PermitBits", spec := "permitBits", unfollowed := true, recurses := true, apart := false }
def PermitBitsSaid : Prop := permitBitsRow.holds Try.pinned (OpenSpec.ofChange permitBitsSpec)

/-- ITS FALSE NEIGHBOUR: 'it returns false'. Refute it at one input. -/
def permitBitsWrong : ChangeSpec := { name := "permitBits", fn := fun _ => fun
  | [d1, d2] => { results := [.lit (.bool false)], args := [d1, d2] }
  | _ => none }
def PermitBitsWrongFalsely : Prop := permitBitsRow.holds Try.pinned (OpenSpec.ofChange permitBitsWrong)

/-- 'archivumlaw34.PermitRevokes': WHATEVER THE INPUT: true; the input reads as it did. -/
def permitRevokesSpec : ChangeSpec := { name := "permitRevokes", fn := fun _ => fun
  | [d1, d2, d3] => { results := [.lit (.bool true)], args := [d1, d2, d3] }
  | _ => none }
def permitRevokesRow : OpenClaim := { program := "ytjhimnlbgmlcdaa", sum := "4d0ca2f446b46ca96127f0a04b7a70e20e4c812274f3c1acf454463bb6d47316", func := "archivum/archivumlaw34.PermitRevokes", spec := "permitRevokes", unfollowed := true, recurses := true, apart := false }
def PermitRevokesSaid : Prop := permitRevokesRow.holds Try.pinned (OpenSpec.ofChange permitRevokesSpec)

/-- ITS FALSE NEIGHBOUR: 'it returns false'. Refute it at one input. -/
def permitRevokesWrong : ChangeSpec := { name := "permitRevokes", fn := fun _ => fun
  | [d1, d2, d3] => { results := [.lit (.bool false)], args := [d1, d2, d3] }
  | _ => none }
def PermitRevokesWrongFalsely : Prop := permitRevokesRow.holds Try.pinned (OpenSpec.ofChange permitRevokesWrong)

/-- 'archivumlaw34.PermitBelow': WHATEVER THE INPUT: true; the input reads as it did. -/
def permitBelowSpec : ChangeSpec := { name := "permitBelow", fn := fun _ => fun
  | [d1, d2, d3] => { results := [.lit (.bool true)], args := [d1, d2, d3] }
  | _ => none }
def permitBelowRow : OpenClaim := { program := "ytjhimnlbgmlcdaa", sum := "4d0ca2f446b46ca96127f0a04b7a70e20e4c812274f3c1acf454463bb6d47316", func := "archivum/archivumlaw34.PermitBelow", spec := "permitBelow", unfollowed := true, recurses := true, apart := false }
def PermitBelowSaid : Prop := permitBelowRow.holds Try.pinned (OpenSpec.ofChange permitBelowSpec)

/-- ITS FALSE NEIGHBOUR: 'it returns false'. Refute it at one input. -/
def permitBelowWrong : ChangeSpec := { name := "permitBelow", fn := fun _ => fun
  | [d1, d2, d3] => { results := [.lit (.bool false)], args := [d1, d2, d3] }
  | _ => none }
def PermitBelowWrongFalsely : Prop := permitBelowRow.holds Try.pinned (OpenSpec.ofChange permitBelowWrong)

/-- 'archivumlaw34.PermitReaders': WHATEVER THE INPUT: true; the input reads as it did. -/
def permitReadersSpec : ChangeSpec := { name := "permitReaders", fn := fun _ => fun
  | [d1, d2] => { results := [.lit (.bool true)], args := [d1, d2] }
  | _ => none }
def permitReadersRow : OpenClaim := { program := "ytjhimnlbgmlcdaa", sum := "4d0ca2f446b46ca96127f0a04b7a70e20e4c812274f3c1acf454463bb6d47316", func := "archivum/archivumlaw34.PermitReaders", spec := "permitReaders", unfollowed := true, recurses := true, apart := false }
def PermitReadersSaid : Prop := permitReadersRow.holds Try.pinned (OpenSpec.ofChange permitReadersSpec)

/-- ITS FALSE NEIGHBOUR: 'it returns false'. Refute it at one input. -/
def permitReadersWrong : ChangeSpec := { name := "permitReaders", fn := fun _ => fun
  | [d1, d2] => { results := [.lit (.bool false)], args := [d1, d2] }
  | _ => none }
def PermitReadersWrongFalsely : Prop := permitReadersRow.holds Try.pinned (OpenSpec.ofChange permitReadersWrong)

/-- 'archivumlaw34.PermitFinds': WHATEVER THE INPUT: true; the input reads as it did. -/
def permitFindsSpec : ChangeSpec := { name := "permitFinds", fn := fun _ => fun
  | [d1, d2] => { results := [.lit (.bool true)], args := [d1, d2] }
  | _ => none }
def permitFindsRow : OpenClaim := { program := "ytjhimnlbgmlcdaa", sum := "4d0ca2f446b46ca96127f0a04b7a70e20e4c812274f3c1acf454463bb6d47316", func := "archivum/archivumlaw34.PermitFinds", spec := "permitFinds", unfollowed := true, recurses := true, apart := false }
def PermitFindsSaid : Prop := permitFindsRow.holds Try.pinned (OpenSpec.ofChange permitFindsSpec)

/-- ITS FALSE NEIGHBOUR: 'it returns false'. Refute it at one input. -/
def permitFindsWrong : ChangeSpec := { name := "permitFinds", fn := fun _ => fun
  | [d1, d2] => { results := [.lit (.bool false)], args := [d1, d2] }
  | _ => none }
def PermitFindsWrongFalsely : Prop := permitFindsRow.holds Try.pinned (OpenSpec.ofChange permitFindsWrong)

/- THE SECOND FORM. 'bulk': how many values and letters a reading holds, each counted each time it is reached (what is shared counts as often as it is met; a slice's spare places count too). A statement '..UptoSaid' is the law's where the arguments, and the package variables that the reading takes, are together of bulk at most 1048576: NARROWER than '..Said'. Prove '..Said' where nothing that the law and all that it calls make is longer than what came in: it says more and counts as full. Else prove '..UptoSaid'. A law counts once. -/
mutual
def uptoBulk {H : Type} : DataW H → Nat
  | .lit (.string bytes) => bytes.length + 1
  | .lit _ => 1
  | .nil => 1
  | .ptr d => uptoBulk d + 1
  | .slice elems spare => uptoBulkAll elems + uptoBulkAll spare + 1
  | .agg parts => uptoBulkAll parts + 1
  | .iface _ d => uptoBulk d + 1
  | .map entries => uptoBulkEntries entries + 1
  | .held _ => 1
def uptoBulkAll {H : Type} : List (DataW H) → Nat
  | [] => 0
  | d :: r => uptoBulk d + uptoBulkAll r
def uptoBulkEntries {H : Type} : List (Lit × DataW H) → Nat
  | [] => 0
  | x :: r => uptoBulkEntry x + uptoBulkEntries r
def uptoBulkEntry {H : Type} : Lit × DataW H → Nat
  | (.string bytes, d) => bytes.length + uptoBulk d + 1
  | (_, d) => uptoBulk d + 1
 end
def uptoSmall : (H : Type) → List (DataW H) → Bool := fun _ ds => decide (uptoBulkAll ds ≤ 1048576)
def OpenSpec.upto (s : _root_.Go.ChangeSpec) : _root_.Go.OpenSpec := { _root_.Go.OpenSpec.ofChange s with cond := some uptoSmall }

/-- 'archivumlaw34.PermitChecks', WHERE WHAT IT READS IS OF BULK AT MOST 1048576: true; the input reads as it did. -/
def permitChecksUptoRow : OpenClaim := { program := "ytjhimnlbgmlcdaa", sum := "4d0ca2f446b46ca96127f0a04b7a70e20e4c812274f3c1acf454463bb6d47316", func := "archivum/archivumlaw34.PermitChecks", spec := "permitChecks", unfollowed := true, recurses := true, apart := false, narrowed := true }
def PermitChecksUptoSaid : Prop := permitChecksUptoRow.holds Try.pinned (OpenSpec.upto permitChecksSpec)

/-- 'archivumlaw34.PermitGrants', WHERE WHAT IT READS IS OF BULK AT MOST 1048576: true; the input reads as it did. -/
def permitGrantsUptoRow : OpenClaim := { program := "ytjhimnlbgmlcdaa", sum := "4d0ca2f446b46ca96127f0a04b7a70e20e4c812274f3c1acf454463bb6d47316", func := "archivum/archivumlaw34.PermitGrants", spec := "permitGrants", unfollowed := true, recurses := true, apart := false, narrowed := true }
def PermitGrantsUptoSaid : Prop := permitGrantsUptoRow.holds Try.pinned (OpenSpec.upto permitGrantsSpec)

/-- 'archivumlaw34.PermitGives', WHERE WHAT IT READS IS OF BULK AT MOST 1048576: true; the input reads as it did. -/
def permitGivesUptoRow : OpenClaim := { program := "ytjhimnlbgmlcdaa", sum := "4d0ca2f446b46ca96127f0a04b7a70e20e4c812274f3c1acf454463bb6d47316", func := "archivum/archivumlaw34.PermitGives", spec := "permitGives", unfollowed := true, recurses := true, apart := false, narrowed := true }
def PermitGivesUptoSaid : Prop := permitGivesUptoRow.holds Try.pinned (OpenSpec.upto permitGivesSpec)

/-- 'archivumlaw34.PermitBits', WHERE WHAT IT READS IS OF BULK AT MOST 1048576: true; the input reads as it did. -/
def permitBitsUptoRow : OpenClaim := { program := "ytjhimnlbgmlcdaa", sum := "4d0ca2f446b46ca96127f0a04b7a70e20e4c812274f3c1acf454463bb6d47316", func := "archivum/archivumlaw34.PermitBits", spec := "permitBits", unfollowed := true, recurses := true, apart := false, narrowed := true }
def PermitBitsUptoSaid : Prop := permitBitsUptoRow.holds Try.pinned (OpenSpec.upto permitBitsSpec)

/-- 'archivumlaw34.PermitRevokes', WHERE WHAT IT READS IS OF BULK AT MOST 1048576: true; the input reads as it did. -/
def permitRevokesUptoRow : OpenClaim := { program := "ytjhimnlbgmlcdaa", sum := "4d0ca2f446b46ca96127f0a04b7a70e20e4c812274f3c1acf454463bb6d47316", func := "archivum/archivumlaw34.PermitRevokes", spec := "permitRevokes", unfollowed := true, recurses := true, apart := false, narrowed := true }
def PermitRevokesUptoSaid : Prop := permitRevokesUptoRow.holds Try.pinned (OpenSpec.upto permitRevokesSpec)

/-- 'archivumlaw34.PermitBelow', WHERE WHAT IT READS IS OF BULK AT MOST 1048576: true; the input reads as it did. -/
def permitBelowUptoRow : OpenClaim := { program := "ytjhimnlbgmlcdaa", sum := "4d0ca2f446b46ca96127f0a04b7a70e20e4c812274f3c1acf454463bb6d47316", func := "archivum/archivumlaw34.PermitBelow", spec := "permitBelow", unfollowed := true, recurses := true, apart := false, narrowed := true }
def PermitBelowUptoSaid : Prop := permitBelowUptoRow.holds Try.pinned (OpenSpec.upto permitBelowSpec)

/-- 'archivumlaw34.PermitReaders', WHERE WHAT IT READS IS OF BULK AT MOST 1048576: true; the input reads as it did. -/
def permitReadersUptoRow : OpenClaim := { program := "ytjhimnlbgmlcdaa", sum := "4d0ca2f446b46ca96127f0a04b7a70e20e4c812274f3c1acf454463bb6d47316", func := "archivum/archivumlaw34.PermitReaders", spec := "permitReaders", unfollowed := true, recurses := true, apart := false, narrowed := true }
def PermitReadersUptoSaid : Prop := permitReadersUptoRow.holds Try.pinned (OpenSpec.upto permitReadersSpec)

/-- 'archivumlaw34.PermitFinds', WHERE WHAT IT READS IS OF BULK AT MOST 1048576: true; the input reads as it did. -/
def permitFindsUptoRow : OpenClaim := { program := "ytjhimnlbgmlcdaa", sum := "4d0ca2f446b46ca96127f0a04b7a70e20e4c812274f3c1acf454463bb6d47316", func := "archivum/archivumlaw34.PermitFinds", spec := "permitFinds", unfollowed := true, recurses := true, apart := false, narrowed := true }
def PermitFindsUptoSaid : Prop := permitFindsUptoRow.holds Try.pinned (OpenSpec.upto permitFindsSpec)

end Rows
end Go.Proofs.Ytjhimnlbgmlcdaa
