/-
  No cell of these rows narrows 'for every input' (looked for: loops, veiled, ifaces, maps, wideKeys, modest, calm, conditions, laid).
  DERIVED. THE GIVEN ROWS OF THIS SEAT. 6 by the template 'for every input the law returns true; each argument reads behind the call as it read before'; 0 by the template 'total and deterministic' (their statements: YtdiikneggikfkaaTotals.lean).
  GIVEN WITH THE SEED: the statements are not yours to turn. If you find one false, say at which input.
  Laid BY PROGRAM, IN A SANDBOX (cutbox-rows.mjs): the forced cells as the released guide's own fill.sh prints them over the translation 695ea4aa3ef3b474… (all of the seat's roots in one cut). By AI agents, Wed Nov 11 2026. No macro, syntax, notation, axiom, sorry.
-/
import Derived.Test.YtdiikneggikfkaaChecked
import GoSem.Claim
import GoSem.ClaimJoined
import GoSem.ClaimMapViews
import Derived.JoinedTies
import Derived.KernelRfl
namespace Go.Proofs.Ytdiikneggikfkaa
/- THE CELL 'sum', in the pinned program and in every row, IS THE sha256 OF THE DUMP (.gsa) THAT YtdiikneggikfkaaProg.lean LOADS. Nothing in Lean hashes anything: it is a label: what it is worth is what the hold of that sum in a sandbox is worth. -/
noncomputable def Try.pinned : Pinned := { name := "ytdiikneggikfkaa", sum := "695ea4aa3ef3b4743d630c3b272578392a8993c16ba1b4ca09d925288e3b4c84", checked := Try.checked }
namespace Rows
def none {H : Type} : Left H := { results := [], args := [] }

/-- 'archivumlaw43.ReadingChecks': WHATEVER THE INPUT: true; the input reads as it did. -/
def readingChecksSpec : ChangeSpec := { name := "readingChecks", fn := fun _ => fun
  | [d1, d2, d3] => { results := [.lit (.bool true)], args := [d1, d2, d3] }
  | _ => none }
def readingChecksRow : OpenClaim := { program := "ytdiikneggikfkaa", sum := "695ea4aa3ef3b4743d630c3b272578392a8993c16ba1b4ca09d925288e3b4c84", func := "archivum/archivumlaw43.ReadingChecks", spec := "readingChecks", unfollowed := true, recurses := true, apart := false }
def ReadingChecksSaid : Prop := readingChecksRow.holds Try.pinned (OpenSpec.ofChange readingChecksSpec)

/-- ITS FALSE NEIGHBOUR: 'it returns false'. Refute it at one input. -/
def readingChecksWrong : ChangeSpec := { name := "readingChecks", fn := fun _ => fun
  | [d1, d2, d3] => { results := [.lit (.bool false)], args := [d1, d2, d3] }
  | _ => none }
def ReadingChecksWrongFalsely : Prop := readingChecksRow.holds Try.pinned (OpenSpec.ofChange readingChecksWrong)

/-- 'archivumlaw43.ReadingAdmits': WHATEVER THE INPUT: true; the input reads as it did. -/
def readingAdmitsSpec : ChangeSpec := { name := "readingAdmits", fn := fun _ => fun
  | [d1, d2, d3] => { results := [.lit (.bool true)], args := [d1, d2, d3] }
  | _ => none }
def readingAdmitsRow : OpenClaim := { program := "ytdiikneggikfkaa", sum := "695ea4aa3ef3b4743d630c3b272578392a8993c16ba1b4ca09d925288e3b4c84", func := "archivum/archivumlaw43.ReadingAdmits", spec := "readingAdmits", unfollowed := true, recurses := true, apart := false }
def ReadingAdmitsSaid : Prop := readingAdmitsRow.holds Try.pinned (OpenSpec.ofChange readingAdmitsSpec)

/-- ITS FALSE NEIGHBOUR: 'it returns false'. Refute it at one input. -/
def readingAdmitsWrong : ChangeSpec := { name := "readingAdmits", fn := fun _ => fun
  | [d1, d2, d3] => { results := [.lit (.bool false)], args := [d1, d2, d3] }
  | _ => none }
def ReadingAdmitsWrongFalsely : Prop := readingAdmitsRow.holds Try.pinned (OpenSpec.ofChange readingAdmitsWrong)

/-- 'archivumlaw43.ReadingApart': WHATEVER THE INPUT: true; the input reads as it did. -/
def readingApartSpec : ChangeSpec := { name := "readingApart", fn := fun _ => fun
  | [d1, d2] => { results := [.lit (.bool true)], args := [d1, d2] }
  | _ => none }
def readingApartRow : OpenClaim := { program := "ytdiikneggikfkaa", sum := "695ea4aa3ef3b4743d630c3b272578392a8993c16ba1b4ca09d925288e3b4c84", func := "archivum/archivumlaw43.ReadingApart", spec := "readingApart", unfollowed := true, recurses := true, apart := false }
def ReadingApartSaid : Prop := readingApartRow.holds Try.pinned (OpenSpec.ofChange readingApartSpec)

/-- ITS FALSE NEIGHBOUR: 'it returns false'. Refute it at one input. -/
def readingApartWrong : ChangeSpec := { name := "readingApart", fn := fun _ => fun
  | [d1, d2] => { results := [.lit (.bool false)], args := [d1, d2] }
  | _ => none }
def ReadingApartWrongFalsely : Prop := readingApartRow.holds Try.pinned (OpenSpec.ofChange readingApartWrong)

/-- 'archivumlaw43.ReadingPeak': WHATEVER THE INPUT: true; the input reads as it did. -/
def readingPeakSpec : ChangeSpec := { name := "readingPeak", fn := fun _ => fun
  | [d1, d2] => { results := [.lit (.bool true)], args := [d1, d2] }
  | _ => none }
def readingPeakRow : OpenClaim := { program := "ytdiikneggikfkaa", sum := "695ea4aa3ef3b4743d630c3b272578392a8993c16ba1b4ca09d925288e3b4c84", func := "archivum/archivumlaw43.ReadingPeak", spec := "readingPeak", unfollowed := true, recurses := true, apart := false }
def ReadingPeakSaid : Prop := readingPeakRow.holds Try.pinned (OpenSpec.ofChange readingPeakSpec)

/-- ITS FALSE NEIGHBOUR: 'it returns false'. Refute it at one input. -/
def readingPeakWrong : ChangeSpec := { name := "readingPeak", fn := fun _ => fun
  | [d1, d2] => { results := [.lit (.bool false)], args := [d1, d2] }
  | _ => none }
def ReadingPeakWrongFalsely : Prop := readingPeakRow.holds Try.pinned (OpenSpec.ofChange readingPeakWrong)

/-- 'archivumlaw43.ReadingFree': WHATEVER THE INPUT: true; the input reads as it did. -/
def readingFreeSpec : ChangeSpec := { name := "readingFree", fn := fun _ => fun
  | [d1, d2, d3] => { results := [.lit (.bool true)], args := [d1, d2, d3] }
  | _ => none }
def readingFreeRow : OpenClaim := { program := "ytdiikneggikfkaa", sum := "695ea4aa3ef3b4743d630c3b272578392a8993c16ba1b4ca09d925288e3b4c84", func := "archivum/archivumlaw43.ReadingFree", spec := "readingFree", unfollowed := true, recurses := true, apart := false }
def ReadingFreeSaid : Prop := readingFreeRow.holds Try.pinned (OpenSpec.ofChange readingFreeSpec)

/-- ITS FALSE NEIGHBOUR: 'it returns false'. Refute it at one input. -/
def readingFreeWrong : ChangeSpec := { name := "readingFree", fn := fun _ => fun
  | [d1, d2, d3] => { results := [.lit (.bool false)], args := [d1, d2, d3] }
  | _ => none }
def ReadingFreeWrongFalsely : Prop := readingFreeRow.holds Try.pinned (OpenSpec.ofChange readingFreeWrong)

/-- 'archivumlaw43.ReadingUndone': WHATEVER THE INPUT: true; the input reads as it did. -/
def readingUndoneSpec : ChangeSpec := { name := "readingUndone", fn := fun _ => fun
  | [d1, d2, d3] => { results := [.lit (.bool true)], args := [d1, d2, d3] }
  | _ => none }
def readingUndoneRow : OpenClaim := { program := "ytdiikneggikfkaa", sum := "695ea4aa3ef3b4743d630c3b272578392a8993c16ba1b4ca09d925288e3b4c84", func := "archivum/archivumlaw43.ReadingUndone", spec := "readingUndone", unfollowed := true, recurses := true, apart := false }
def ReadingUndoneSaid : Prop := readingUndoneRow.holds Try.pinned (OpenSpec.ofChange readingUndoneSpec)

/-- ITS FALSE NEIGHBOUR: 'it returns false'. Refute it at one input. -/
def readingUndoneWrong : ChangeSpec := { name := "readingUndone", fn := fun _ => fun
  | [d1, d2, d3] => { results := [.lit (.bool false)], args := [d1, d2, d3] }
  | _ => none }
def ReadingUndoneWrongFalsely : Prop := readingUndoneRow.holds Try.pinned (OpenSpec.ofChange readingUndoneWrong)

/- THE SECOND FORM. 'bulk': how many values and letters a reading holds, each counted each time it is reached (what is shared counts as often as it is met; a slice's spare places count too). A statement '..UptoSaid' is the law's where the arguments, and the package variables that the reading takes, are together of bulk at most 1048576: NARROWER than '..Said'. Prove '..Said' where nothing that the law and all that it calls make is longer than what came in: it says more and counts as full. Else prove '..UptoSaid'. A law counts once. -/
mutual
def uptoBulk {H : Type} : DataW H → Nat
  | .lit (.string bytes) => bytes.length + 1
  | .lit _ => 1
  | .nil => 1
  | .ptr d => uptoBulk d + 1
  | .slice elems spare => uptoBulkAll elems + uptoBulkAll spare + 1
  | .agg parts => uptoBulkAll parts + 1
  | .iface _ d => uptoBulk d + 1
  | .map entries => uptoBulkEntries entries + 1
  | .held _ => 1
def uptoBulkAll {H : Type} : List (DataW H) → Nat
  | [] => 0
  | d :: r => uptoBulk d + uptoBulkAll r
def uptoBulkEntries {H : Type} : List (Lit × DataW H) → Nat
  | [] => 0
  | x :: r => uptoBulkEntry x + uptoBulkEntries r
def uptoBulkEntry {H : Type} : Lit × DataW H → Nat
  | (.string bytes, d) => bytes.length + uptoBulk d + 1
  | (_, d) => uptoBulk d + 1
 end
def uptoSmall : (H : Type) → List (DataW H) → Bool := fun _ ds => decide (uptoBulkAll ds ≤ 1048576)
def OpenSpec.upto (s : _root_.Go.ChangeSpec) : _root_.Go.OpenSpec := { _root_.Go.OpenSpec.ofChange s with cond := some uptoSmall }

/-- 'archivumlaw43.ReadingChecks', WHERE WHAT IT READS IS OF BULK AT MOST 1048576: true; the input reads as it did. -/
def readingChecksUptoRow : OpenClaim := { program := "ytdiikneggikfkaa", sum := "695ea4aa3ef3b4743d630c3b272578392a8993c16ba1b4ca09d925288e3b4c84", func := "archivum/archivumlaw43.ReadingChecks", spec := "readingChecks", unfollowed := true, recurses := true, apart := false, narrowed := true }
def ReadingChecksUptoSaid : Prop := readingChecksUptoRow.holds Try.pinned (OpenSpec.upto readingChecksSpec)

/-- 'archivumlaw43.ReadingAdmits', WHERE WHAT IT READS IS OF BULK AT MOST 1048576: true; the input reads as it did. -/
def readingAdmitsUptoRow : OpenClaim := { program := "ytdiikneggikfkaa", sum := "695ea4aa3ef3b4743d630c3b272578392a8993c16ba1b4ca09d925288e3b4c84", func := "archivum/archivumlaw43.ReadingAdmits", spec := "readingAdmits", unfollowed := true, recurses := true, apart := false, narrowed := true }
def ReadingAdmitsUptoSaid : Prop := readingAdmitsUptoRow.holds Try.pinned (OpenSpec.upto readingAdmitsSpec)

/-- 'archivumlaw43.ReadingApart', WHERE WHAT IT READS IS OF BULK AT MOST 1048576: true; the input reads as it did. -/
def readingApartUptoRow : OpenClaim := { program := "ytdiikneggikfkaa", sum := "695ea4aa3ef3b4743d630c3b272578392a8993c16ba1b4ca09d925288e3b4c84", func := "archivum/archivumlaw43.ReadingApart", spec := "readingApart", unfollowed := true, recurses := true, apart := false, narrowed := true }
def ReadingApartUptoSaid : Prop := readingApartUptoRow.holds Try.pinned (OpenSpec.upto readingApartSpec)

/-- 'archivumlaw43.ReadingPeak', WHERE WHAT IT READS IS OF BULK AT MOST 1048576: true; the input reads as it did. -/
def readingPeakUptoRow : OpenClaim := { program := "ytdiikneggikfkaa", sum := "695ea4aa3ef3b4743d630c3b272578392a8993c16ba1b4ca09d925288e3b4c84", func := "archivum/archivumlaw43.ReadingPeak", spec := "readingPeak", unfollowed := true, recurses := true, apart := false, narrowed := true }
def ReadingPeakUptoSaid : Prop := readingPeakUptoRow.holds Try.pinned (OpenSpec.upto readingPeakSpec)

/-- 'archivumlaw43.ReadingFree', WHERE WHAT IT READS IS OF BULK AT MOST 1048576: true; the input reads as it did. -/
def readingFreeUptoRow : OpenClaim := { program := "ytdiikneggikfkaa", sum := "695ea4aa3ef3b4743d630c3b272578392a8993c16ba1b4ca09d925288e3b4c84", func := "archivum/archivumlaw43.ReadingFree", spec := "readingFree", unfollowed := true, recurses := true, apart := false, narrowed := true }
def ReadingFreeUptoSaid : Prop := readingFreeUptoRow.holds Try.pinned (OpenSpec.upto readingFreeSpec)

/-- 'archivumlaw43.ReadingUndone', WHERE WHAT IT READS IS OF BULK AT MOST 1048576: true; the input reads as it did. -/
def readingUndoneUptoRow : OpenClaim := { program := "ytdiikneggikfkaa", sum := "695ea4aa3ef3b4743d630c3b272578392a8993c16ba1b4ca09d925288e3b4c84", func := "archivum/archivumlaw43.ReadingUndone", spec := "readingUndone", unfollowed := true, recurses := true, apart := false, narrowed := true }
def ReadingUndoneUptoSaid : Prop := readingUndoneUptoRow.holds Try.pinned (OpenSpec.upto readingUndoneSpec)

end Rows
end Go.Proofs.Ytdiikneggikfkaa
