/-
  No cell of these rows narrows 'for every input' (looked for: loops, veiled, ifaces, maps, wideKeys, modest, calm, conditions, laid).
  DERIVED. THE GIVEN ROWS OF THIS SEAT. 8 by the template 'for every input the law returns true; each argument reads behind the call as it read before'; 0 by the template 'total and deterministic' (their statements: YtepkgkdbnoiieaaTotals.lean).
  GIVEN WITH THE SEED: the statements are not yours to turn. If you find one false, say at which input.
  Laid BY PROGRAM, IN A SANDBOX (cutbox-rows.mjs): the forced cells as the released guide's own fill.sh prints them over the translation cc3aa2961a9cd32a… (all of the seat's roots in one cut). By AI agents, Wed Nov 11 2026. No macro, syntax, notation, axiom, sorry.
-/
import Derived.Test.YtepkgkdbnoiieaaChecked
import GoSem.Claim
import GoSem.ClaimJoined
import GoSem.ClaimMapViews
import Derived.JoinedTies
import Derived.KernelRfl
namespace Go.Proofs.Ytepkgkdbnoiieaa
/- THE CELL 'sum', in the pinned program and in every row, IS THE sha256 OF THE DUMP (.gsa) THAT YtepkgkdbnoiieaaProg.lean LOADS. Nothing in Lean hashes anything: it is a label: what it is worth is what the hold of that sum in a sandbox is worth. -/
noncomputable def Try.pinned : Pinned := { name := "ytepkgkdbnoiieaa", sum := "cc3aa2961a9cd32a08b6beea3f56f2f2ad83e25296cdaacd2fb82c6debc80427", checked := Try.checked }
namespace Rows
def none {H : Type} : Left H := { results := [], args := [] }

/-- 'archivumlaw20.SequenceMeasures': WHATEVER THE INPUT: true; the input reads as it did. -/
def sequenceMeasuresSpec : ChangeSpec := { name := "sequenceMeasures", fn := fun _ => fun
  | [d] => { results := [.lit (.bool true)], args := [d] }
  | _ => none }
def sequenceMeasuresRow : OpenClaim := { program := "ytepkgkdbnoiieaa", sum := "cc3aa2961a9cd32a08b6beea3f56f2f2ad83e25296cdaacd2fb82c6debc80427", func := "archivum/archivumlaw20.SequenceMeasures", spec := "sequenceMeasures", inPlace := ["slices.overlaps[int]"], unfollowed := true, recurses := true, apart := false }
def SequenceMeasuresSaid : Prop := sequenceMeasuresRow.holds Try.pinned (OpenSpec.ofChange sequenceMeasuresSpec)

/-- ITS FALSE NEIGHBOUR: 'it returns false'. Refute it at one input. -/
def sequenceMeasuresWrong : ChangeSpec := { name := "sequenceMeasures", fn := fun _ => fun
  | [d] => { results := [.lit (.bool false)], args := [d] }
  | _ => none }
def SequenceMeasuresWrongFalsely : Prop := sequenceMeasuresRow.holds Try.pinned (OpenSpec.ofChange sequenceMeasuresWrong)

/-- 'archivumlaw20.SequenceRestores': WHATEVER THE INPUT: true; the input reads as it did. -/
def sequenceRestoresSpec : ChangeSpec := { name := "sequenceRestores", fn := fun _ => fun
  | [d] => { results := [.lit (.bool true)], args := [d] }
  | _ => none }
def sequenceRestoresRow : OpenClaim := { program := "ytepkgkdbnoiieaa", sum := "cc3aa2961a9cd32a08b6beea3f56f2f2ad83e25296cdaacd2fb82c6debc80427", func := "archivum/archivumlaw20.SequenceRestores", spec := "sequenceRestores", inPlace := ["slices.overlaps[int]"], unfollowed := true, recurses := true, apart := false }
def SequenceRestoresSaid : Prop := sequenceRestoresRow.holds Try.pinned (OpenSpec.ofChange sequenceRestoresSpec)

/-- ITS FALSE NEIGHBOUR: 'it returns false'. Refute it at one input. -/
def sequenceRestoresWrong : ChangeSpec := { name := "sequenceRestores", fn := fun _ => fun
  | [d] => { results := [.lit (.bool false)], args := [d] }
  | _ => none }
def SequenceRestoresWrongFalsely : Prop := sequenceRestoresRow.holds Try.pinned (OpenSpec.ofChange sequenceRestoresWrong)

/-- 'archivumlaw20.SequenceApplies': WHATEVER THE INPUT: true; the input reads as it did. -/
def sequenceAppliesSpec : ChangeSpec := { name := "sequenceApplies", fn := fun _ => fun
  | [d1, d2, d3] => { results := [.lit (.bool true)], args := [d1, d2, d3] }
  | _ => none }
def sequenceAppliesRow : OpenClaim := { program := "ytepkgkdbnoiieaa", sum := "cc3aa2961a9cd32a08b6beea3f56f2f2ad83e25296cdaacd2fb82c6debc80427", func := "archivum/archivumlaw20.SequenceApplies", spec := "sequenceApplies", inPlace := ["slices.overlaps[int]"], unfollowed := true, recurses := true, apart := false }
def SequenceAppliesSaid : Prop := sequenceAppliesRow.holds Try.pinned (OpenSpec.ofChange sequenceAppliesSpec)

/-- ITS FALSE NEIGHBOUR: 'it returns false'. Refute it at one input. -/
def sequenceAppliesWrong : ChangeSpec := { name := "sequenceApplies", fn := fun _ => fun
  | [d1, d2, d3] => { results := [.lit (.bool false)], args := [d1, d2, d3] }
  | _ => none }
def SequenceAppliesWrongFalsely : Prop := sequenceAppliesRow.holds Try.pinned (OpenSpec.ofChange sequenceAppliesWrong)

/-- 'archivumlaw20.SequenceOriginal': WHATEVER THE INPUT: true; the input reads as it did. -/
def sequenceOriginalSpec : ChangeSpec := { name := "sequenceOriginal", fn := fun _ => fun
  | [d] => { results := [.lit (.bool true)], args := [d] }
  | _ => none }
def sequenceOriginalRow : OpenClaim := { program := "ytepkgkdbnoiieaa", sum := "cc3aa2961a9cd32a08b6beea3f56f2f2ad83e25296cdaacd2fb82c6debc80427", func := "archivum/archivumlaw20.SequenceOriginal", spec := "sequenceOriginal", inPlace := ["slices.overlaps[int]"], unfollowed := true, recurses := true, apart := false }
def SequenceOriginalSaid : Prop := sequenceOriginalRow.holds Try.pinned (OpenSpec.ofChange sequenceOriginalSpec)

/-- ITS FALSE NEIGHBOUR: 'it returns false'. Refute it at one input. -/
def sequenceOriginalWrong : ChangeSpec := { name := "sequenceOriginal", fn := fun _ => fun
  | [d] => { results := [.lit (.bool false)], args := [d] }
  | _ => none }
def SequenceOriginalWrongFalsely : Prop := sequenceOriginalRow.holds Try.pinned (OpenSpec.ofChange sequenceOriginalWrong)

/-- 'archivumlaw20.SequenceNeighbours': WHATEVER THE INPUT: true; the input reads as it did. -/
def sequenceNeighboursSpec : ChangeSpec := { name := "sequenceNeighbours", fn := fun _ => fun
  | [d1, d2] => { results := [.lit (.bool true)], args := [d1, d2] }
  | _ => none }
def sequenceNeighboursRow : OpenClaim := { program := "ytepkgkdbnoiieaa", sum := "cc3aa2961a9cd32a08b6beea3f56f2f2ad83e25296cdaacd2fb82c6debc80427", func := "archivum/archivumlaw20.SequenceNeighbours", spec := "sequenceNeighbours", inPlace := ["slices.overlaps[int]"], unfollowed := true, recurses := true, apart := false }
def SequenceNeighboursSaid : Prop := sequenceNeighboursRow.holds Try.pinned (OpenSpec.ofChange sequenceNeighboursSpec)

/-- ITS FALSE NEIGHBOUR: 'it returns false'. Refute it at one input. -/
def sequenceNeighboursWrong : ChangeSpec := { name := "sequenceNeighbours", fn := fun _ => fun
  | [d1, d2] => { results := [.lit (.bool false)], args := [d1, d2] }
  | _ => none }
def SequenceNeighboursWrongFalsely : Prop := sequenceNeighboursRow.holds Try.pinned (OpenSpec.ofChange sequenceNeighboursWrong)

/-- 'archivumlaw20.SequenceTriangle': WHATEVER THE INPUT: true; the input reads as it did. -/
def sequenceTriangleSpec : ChangeSpec := { name := "sequenceTriangle", fn := fun _ => fun
  | [d1, d2, d3] => { results := [.lit (.bool true)], args := [d1, d2, d3] }
  | _ => none }
def sequenceTriangleRow : OpenClaim := { program := "ytepkgkdbnoiieaa", sum := "cc3aa2961a9cd32a08b6beea3f56f2f2ad83e25296cdaacd2fb82c6debc80427", func := "archivum/archivumlaw20.SequenceTriangle", spec := "sequenceTriangle", inPlace := ["slices.overlaps[int]"], unfollowed := true, recurses := true, apart := false }
def SequenceTriangleSaid : Prop := sequenceTriangleRow.holds Try.pinned (OpenSpec.ofChange sequenceTriangleSpec)

/-- ITS FALSE NEIGHBOUR: 'it returns false'. Refute it at one input. -/
def sequenceTriangleWrong : ChangeSpec := { name := "sequenceTriangle", fn := fun _ => fun
  | [d1, d2, d3] => { results := [.lit (.bool false)], args := [d1, d2, d3] }
  | _ => none }
def SequenceTriangleWrongFalsely : Prop := sequenceTriangleRow.holds Try.pinned (OpenSpec.ofChange sequenceTriangleWrong)

/-- 'archivumlaw20.SequenceFewest': WHATEVER THE INPUT: true; the input reads as it did. -/
def sequenceFewestSpec : ChangeSpec := { name := "sequenceFewest", fn := fun _ => fun
  | [d1, d2] => { results := [.lit (.bool true)], args := [d1, d2] }
  | _ => none }
def sequenceFewestRow : OpenClaim := { program := "ytepkgkdbnoiieaa", sum := "cc3aa2961a9cd32a08b6beea3f56f2f2ad83e25296cdaacd2fb82c6debc80427", func := "archivum/archivumlaw20.SequenceFewest", spec := "sequenceFewest", inPlace := ["slices.overlaps[int]"], unfollowed := true, recurses := true, apart := false }
def SequenceFewestSaid : Prop := sequenceFewestRow.holds Try.pinned (OpenSpec.ofChange sequenceFewestSpec)

/-- ITS FALSE NEIGHBOUR: 'it returns false'. Refute it at one input. -/
def sequenceFewestWrong : ChangeSpec := { name := "sequenceFewest", fn := fun _ => fun
  | [d1, d2] => { results := [.lit (.bool false)], args := [d1, d2] }
  | _ => none }
def SequenceFewestWrongFalsely : Prop := sequenceFewestRow.holds Try.pinned (OpenSpec.ofChange sequenceFewestWrong)

/-- 'archivumlaw20.SequenceLongest': WHATEVER THE INPUT: true; the input reads as it did. -/
def sequenceLongestSpec : ChangeSpec := { name := "sequenceLongest", fn := fun _ => fun
  | [d1, d2] => { results := [.lit (.bool true)], args := [d1, d2] }
  | _ => none }
def sequenceLongestRow : OpenClaim := { program := "ytepkgkdbnoiieaa", sum := "cc3aa2961a9cd32a08b6beea3f56f2f2ad83e25296cdaacd2fb82c6debc80427", func := "archivum/archivumlaw20.SequenceLongest", spec := "sequenceLongest", inPlace := ["slices.overlaps[int]"], unfollowed := true, recurses := true, apart := false }
def SequenceLongestSaid : Prop := sequenceLongestRow.holds Try.pinned (OpenSpec.ofChange sequenceLongestSpec)

/-- ITS FALSE NEIGHBOUR: 'it returns false'. Refute it at one input. -/
def sequenceLongestWrong : ChangeSpec := { name := "sequenceLongest", fn := fun _ => fun
  | [d1, d2] => { results := [.lit (.bool false)], args := [d1, d2] }
  | _ => none }
def SequenceLongestWrongFalsely : Prop := sequenceLongestRow.holds Try.pinned (OpenSpec.ofChange sequenceLongestWrong)

/- THE SECOND FORM. 'bulk': how many values and letters a reading holds, each counted each time it is reached (what is shared counts as often as it is met; a slice's spare places count too). A statement '..UptoSaid' is the law's where the arguments, and the package variables that the reading takes, are together of bulk at most 1048576: NARROWER than '..Said'. Prove '..Said' where nothing that the law and all that it calls make is longer than what came in: it says more and counts as full. Else prove '..UptoSaid'. A law counts once. -/
mutual
def uptoBulk {H : Type} : DataW H → Nat
  | .lit (.string bytes) => bytes.length + 1
  | .lit _ => 1
  | .nil => 1
  | .ptr d => uptoBulk d + 1
  | .slice elems spare => uptoBulkAll elems + uptoBulkAll spare + 1
  | .agg parts => uptoBulkAll parts + 1
  | .iface _ d => uptoBulk d + 1
  | .map entries => uptoBulkEntries entries + 1
  | .held _ => 1
def uptoBulkAll {H : Type} : List (DataW H) → Nat
  | [] => 0
  | d :: r => uptoBulk d + uptoBulkAll r
def uptoBulkEntries {H : Type} : List (Lit × DataW H) → Nat
  | [] => 0
  | x :: r => uptoBulkEntry x + uptoBulkEntries r
def uptoBulkEntry {H : Type} : Lit × DataW H → Nat
  | (.string bytes, d) => bytes.length + uptoBulk d + 1
  | (_, d) => uptoBulk d + 1
 end
def uptoSmall : (H : Type) → List (DataW H) → Bool := fun _ ds => decide (uptoBulkAll ds ≤ 1048576)
def OpenSpec.upto (s : _root_.Go.ChangeSpec) : _root_.Go.OpenSpec := { _root_.Go.OpenSpec.ofChange s with cond := some uptoSmall }

/-- 'archivumlaw20.SequenceMeasures', WHERE WHAT IT READS IS OF BULK AT MOST 1048576: true; the input reads as it did. -/
def sequenceMeasuresUptoRow : OpenClaim := { program := "ytepkgkdbnoiieaa", sum := "cc3aa2961a9cd32a08b6beea3f56f2f2ad83e25296cdaacd2fb82c6debc80427", func := "archivum/archivumlaw20.SequenceMeasures", spec := "sequenceMeasures", inPlace := ["slices.overlaps[int]"], unfollowed := true, recurses := true, apart := false, narrowed := true }
def SequenceMeasuresUptoSaid : Prop := sequenceMeasuresUptoRow.holds Try.pinned (OpenSpec.upto sequenceMeasuresSpec)

/-- 'archivumlaw20.SequenceRestores', WHERE WHAT IT READS IS OF BULK AT MOST 1048576: true; the input reads as it did. -/
def sequenceRestoresUptoRow : OpenClaim := { program := "ytepkgkdbnoiieaa", sum := "cc3aa2961a9cd32a08b6beea3f56f2f2ad83e25296cdaacd2fb82c6debc80427", func := "archivum/archivumlaw20.SequenceRestores", spec := "sequenceRestores", inPlace := ["slices.overlaps[int]"], unfollowed := true, recurses := true, apart := false, narrowed := true }
def SequenceRestoresUptoSaid : Prop := sequenceRestoresUptoRow.holds Try.pinned (OpenSpec.upto sequenceRestoresSpec)

/-- 'archivumlaw20.SequenceApplies', WHERE WHAT IT READS IS OF BULK AT MOST 1048576: true; the input reads as it did. -/
def sequenceAppliesUptoRow : OpenClaim := { program := "ytepkgkdbnoiieaa", sum := "cc3aa2961a9cd32a08b6beea3f56f2f2ad83e25296cdaacd2fb82c6debc80427", func := "archivum/archivumlaw20.SequenceApplies", spec := "sequenceApplies", inPlace := ["slices.overlaps[int]"], unfollowed := true, recurses := true, apart := false, narrowed := true }
def SequenceAppliesUptoSaid : Prop := sequenceAppliesUptoRow.holds Try.pinned (OpenSpec.upto sequenceAppliesSpec)

/-- 'archivumlaw20.SequenceOriginal', WHERE WHAT IT READS IS OF BULK AT MOST 1048576: true; the input reads as it did. -/
def sequenceOriginalUptoRow : OpenClaim := { program := "ytepkgkdbnoiieaa", sum := "cc3aa2961a9cd32a08b6beea3f56f2f2ad83e25296cdaacd2fb82c6debc80427", func := "archivum/archivumlaw20.SequenceOriginal", spec := "sequenceOriginal", inPlace := ["slices.overlaps[int]"], unfollowed := true, recurses := true, apart := false, narrowed := true }
def SequenceOriginalUptoSaid : Prop := sequenceOriginalUptoRow.holds Try.pinned (OpenSpec.upto sequenceOriginalSpec)

/-- 'archivumlaw20.SequenceNeighbours', WHERE WHAT IT READS IS OF BULK AT MOST 1048576: true; the input reads as it did. -/
def sequenceNeighboursUptoRow : OpenClaim := { program := "ytepkgkdbnoiieaa", sum := "cc3aa2961a9cd32a08b6beea3f56f2f2ad83e25296cdaacd2fb82c6debc80427", func := "archivum/archivumlaw20.SequenceNeighbours", spec := "sequenceNeighbours", inPlace := ["slices.overlaps[int]"], unfollowed := true, recurses := true, apart := false, narrowed := true }
def SequenceNeighboursUptoSaid : Prop := sequenceNeighboursUptoRow.holds Try.pinned (OpenSpec.upto sequenceNeighboursSpec)

/-- 'archivumlaw20.SequenceTriangle', WHERE WHAT IT READS IS OF BULK AT MOST 1048576: true; the input reads as it did. -/
def sequenceTriangleUptoRow : OpenClaim := { program := "ytepkgkdbnoiieaa", sum := "cc3aa2961a9cd32a08b6beea3f56f2f2ad83e25296cdaacd2fb82c6debc80427", func := "archivum/archivumlaw20.SequenceTriangle", spec := "sequenceTriangle", inPlace := ["slices.overlaps[int]"], unfollowed := true, recurses := true, apart := false, narrowed := true }
def SequenceTriangleUptoSaid : Prop := sequenceTriangleUptoRow.holds Try.pinned (OpenSpec.upto sequenceTriangleSpec)

/-- 'archivumlaw20.SequenceFewest', WHERE WHAT IT READS IS OF BULK AT MOST 1048576: true; the input reads as it did. -/
def sequenceFewestUptoRow : OpenClaim := { program := "ytepkgkdbnoiieaa", sum := "cc3aa2961a9cd32a08b6beea3f56f2f2ad83e25296cdaacd2fb82c6debc80427", func := "archivum/archivumlaw20.SequenceFewest", spec := "sequenceFewest", inPlace := ["slices.overlaps[int]"], unfollowed := true, recurses := true, apart := false, narrowed := true }
def SequenceFewestUptoSaid : Prop := sequenceFewestUptoRow.holds Try.pinned (OpenSpec.upto sequenceFewestSpec)

/-- 'archivumlaw20.SequenceLongest', WHERE WHAT IT READS IS OF BULK AT MOST 1048576: true; the input reads as it did. -/
def sequenceLongestUptoRow : OpenClaim := { program := "ytepkgkdbnoiieaa", sum := "cc3aa2961a9cd32a08b6beea3f56f2f2ad83e25296cdaacd2fb82c6debc80427", func := "archivum/archivumlaw20.SequenceLongest", spec := "sequenceLongest", inPlace := ["slices.overlaps[int]"], unfollowed := true, recurses := true, apart := false, narrowed := true }
def SequenceLongestUptoSaid : Prop := sequenceLongestUptoRow.holds Try.pinned (OpenSpec.upto sequenceLongestSpec)

end Rows
end Go.Proofs.Ytepkgkdbnoiieaa
