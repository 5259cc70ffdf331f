/-
  No cell of these rows narrows 'for every input' (looked for: loops, veiled, ifaces, maps, wideKeys, modest, calm, conditions, laid).
  DERIVED. THE GIVEN ROWS OF THIS SEAT. 7 by the template 'for every input the law returns true; each argument reads behind the call as it read before'; 0 by the template 'total and deterministic' (their statements: YtejhgipllmjhfaaTotals.lean).
  GIVEN WITH THE SEED: the statements are not yours to turn. If you find one false, say at which input.
  Laid BY PROGRAM, IN A SANDBOX (cutbox-rows.mjs): the forced cells as the released guide's own fill.sh prints them over the translation f07f70629ab491d7… (all of the seat's roots in one cut). By AI agents, Wed Nov 11 2026. No macro, syntax, notation, axiom, sorry.
-/
import Derived.Test.YtejhgipllmjhfaaChecked
import GoSem.Claim
import GoSem.ClaimJoined
import GoSem.ClaimMapViews
import Derived.JoinedTies
import Derived.KernelRfl
namespace Go.Proofs.Ytejhgipllmjhfaa
/- THE CELL 'sum', in the pinned program and in every row, IS THE sha256 OF THE DUMP (.gsa) THAT YtejhgipllmjhfaaProg.lean LOADS. Nothing in Lean hashes anything: it is a label: what it is worth is what the hold of that sum in a sandbox is worth. -/
noncomputable def Try.pinned : Pinned := { name := "ytejhgipllmjhfaa", sum := "f07f70629ab491d76b4658819870c1ad32179213b401cc0da8341899451ca3b9", checked := Try.checked }
namespace Rows
def none {H : Type} : Left H := { results := [], args := [] }

/-- 'archivumlaw18.ProvenanceChecks': WHATEVER THE INPUT: true; the input reads as it did. -/
def provenanceChecksSpec : ChangeSpec := { name := "provenanceChecks", fn := fun _ => fun
  | [d1, d2] => { results := [.lit (.bool true)], args := [d1, d2] }
  | _ => none }
def provenanceChecksRow : OpenClaim := { program := "ytejhgipllmjhfaa", sum := "f07f70629ab491d76b4658819870c1ad32179213b401cc0da8341899451ca3b9", func := "archivum/archivumlaw18.ProvenanceChecks", spec := "provenanceChecks", inPlace := ["slices.overlaps[archivum/api.Came]"], unfollowed := true, recurses := true, apart := false }
def ProvenanceChecksSaid : Prop := provenanceChecksRow.holds Try.pinned (OpenSpec.ofChange provenanceChecksSpec)

/-- ITS FALSE NEIGHBOUR: 'it returns false'. Refute it at one input. -/
def provenanceChecksWrong : ChangeSpec := { name := "provenanceChecks", fn := fun _ => fun
  | [d1, d2] => { results := [.lit (.bool false)], args := [d1, d2] }
  | _ => none }
def ProvenanceChecksWrongFalsely : Prop := provenanceChecksRow.holds Try.pinned (OpenSpec.ofChange provenanceChecksWrong)

/-- 'archivumlaw18.ProvenanceAdds': WHATEVER THE INPUT: true; the input reads as it did. -/
def provenanceAddsSpec : ChangeSpec := { name := "provenanceAdds", fn := fun _ => fun
  | [d1, d2] => { results := [.lit (.bool true)], args := [d1, d2] }
  | _ => none }
def provenanceAddsRow : OpenClaim := { program := "ytejhgipllmjhfaa", sum := "f07f70629ab491d76b4658819870c1ad32179213b401cc0da8341899451ca3b9", func := "archivum/archivumlaw18.ProvenanceAdds", spec := "provenanceAdds", inPlace := ["slices.overlaps[archivum/api.Came]"], unfollowed := true, recurses := true, apart := false }
def ProvenanceAddsSaid : Prop := provenanceAddsRow.holds Try.pinned (OpenSpec.ofChange provenanceAddsSpec)

/-- ITS FALSE NEIGHBOUR: 'it returns false'. Refute it at one input. -/
def provenanceAddsWrong : ChangeSpec := { name := "provenanceAdds", fn := fun _ => fun
  | [d1, d2] => { results := [.lit (.bool false)], args := [d1, d2] }
  | _ => none }
def ProvenanceAddsWrongFalsely : Prop := provenanceAddsRow.holds Try.pinned (OpenSpec.ofChange provenanceAddsWrong)

/-- 'archivumlaw18.ProvenanceOrders': WHATEVER THE INPUT: true; the input reads as it did. -/
def provenanceOrdersSpec : ChangeSpec := { name := "provenanceOrders", fn := fun _ => fun
  | [d1, d2, d3] => { results := [.lit (.bool true)], args := [d1, d2, d3] }
  | _ => none }
def provenanceOrdersRow : OpenClaim := { program := "ytejhgipllmjhfaa", sum := "f07f70629ab491d76b4658819870c1ad32179213b401cc0da8341899451ca3b9", func := "archivum/archivumlaw18.ProvenanceOrders", spec := "provenanceOrders", inPlace := ["slices.overlaps[archivum/api.Came]"], unfollowed := true, recurses := true, apart := false }
def ProvenanceOrdersSaid : Prop := provenanceOrdersRow.holds Try.pinned (OpenSpec.ofChange provenanceOrdersSpec)

/-- ITS FALSE NEIGHBOUR: 'it returns false'. Refute it at one input. -/
def provenanceOrdersWrong : ChangeSpec := { name := "provenanceOrders", fn := fun _ => fun
  | [d1, d2, d3] => { results := [.lit (.bool false)], args := [d1, d2, d3] }
  | _ => none }
def ProvenanceOrdersWrongFalsely : Prop := provenanceOrdersRow.holds Try.pinned (OpenSpec.ofChange provenanceOrdersWrong)

/-- 'archivumlaw18.ProvenanceCompletes': WHATEVER THE INPUT: true; the input reads as it did. -/
def provenanceCompletesSpec : ChangeSpec := { name := "provenanceCompletes", fn := fun _ => fun
  | [d1, d2, d3] => { results := [.lit (.bool true)], args := [d1, d2, d3] }
  | _ => none }
def provenanceCompletesRow : OpenClaim := { program := "ytejhgipllmjhfaa", sum := "f07f70629ab491d76b4658819870c1ad32179213b401cc0da8341899451ca3b9", func := "archivum/archivumlaw18.ProvenanceCompletes", spec := "provenanceCompletes", inPlace := ["slices.overlaps[archivum/api.Came]"], unfollowed := true, recurses := true, apart := false }
def ProvenanceCompletesSaid : Prop := provenanceCompletesRow.holds Try.pinned (OpenSpec.ofChange provenanceCompletesSpec)

/-- ITS FALSE NEIGHBOUR: 'it returns false'. Refute it at one input. -/
def provenanceCompletesWrong : ChangeSpec := { name := "provenanceCompletes", fn := fun _ => fun
  | [d1, d2, d3] => { results := [.lit (.bool false)], args := [d1, d2, d3] }
  | _ => none }
def ProvenanceCompletesWrongFalsely : Prop := provenanceCompletesRow.holds Try.pinned (OpenSpec.ofChange provenanceCompletesWrong)

/-- 'archivumlaw18.ProvenanceKeeps': WHATEVER THE INPUT: true; the input reads as it did. -/
def provenanceKeepsSpec : ChangeSpec := { name := "provenanceKeeps", fn := fun _ => fun
  | [d1, d2] => { results := [.lit (.bool true)], args := [d1, d2] }
  | _ => none }
def provenanceKeepsRow : OpenClaim := { program := "ytejhgipllmjhfaa", sum := "f07f70629ab491d76b4658819870c1ad32179213b401cc0da8341899451ca3b9", func := "archivum/archivumlaw18.ProvenanceKeeps", spec := "provenanceKeeps", inPlace := ["slices.overlaps[archivum/api.Came]"], unfollowed := true, recurses := true, apart := false }
def ProvenanceKeepsSaid : Prop := provenanceKeepsRow.holds Try.pinned (OpenSpec.ofChange provenanceKeepsSpec)

/-- ITS FALSE NEIGHBOUR: 'it returns false'. Refute it at one input. -/
def provenanceKeepsWrong : ChangeSpec := { name := "provenanceKeeps", fn := fun _ => fun
  | [d1, d2] => { results := [.lit (.bool false)], args := [d1, d2] }
  | _ => none }
def ProvenanceKeepsWrongFalsely : Prop := provenanceKeepsRow.holds Try.pinned (OpenSpec.ofChange provenanceKeepsWrong)

/-- 'archivumlaw18.ProvenanceParts': WHATEVER THE INPUT: true; the input reads as it did. -/
def provenancePartsSpec : ChangeSpec := { name := "provenanceParts", fn := fun _ => fun
  | [d] => { results := [.lit (.bool true)], args := [d] }
  | _ => none }
def provenancePartsRow : OpenClaim := { program := "ytejhgipllmjhfaa", sum := "f07f70629ab491d76b4658819870c1ad32179213b401cc0da8341899451ca3b9", func := "archivum/archivumlaw18.ProvenanceParts", spec := "provenanceParts", inPlace := ["slices.overlaps[archivum/api.Came]"], unfollowed := true, recurses := true, apart := false }
def ProvenancePartsSaid : Prop := provenancePartsRow.holds Try.pinned (OpenSpec.ofChange provenancePartsSpec)

/-- ITS FALSE NEIGHBOUR: 'it returns false'. Refute it at one input. -/
def provenancePartsWrong : ChangeSpec := { name := "provenanceParts", fn := fun _ => fun
  | [d] => { results := [.lit (.bool false)], args := [d] }
  | _ => none }
def ProvenancePartsWrongFalsely : Prop := provenancePartsRow.holds Try.pinned (OpenSpec.ofChange provenancePartsWrong)

/-- 'archivumlaw18.ProvenanceWhole': WHATEVER THE INPUT: true; the input reads as it did. -/
def provenanceWholeSpec : ChangeSpec := { name := "provenanceWhole", fn := fun _ => fun
  | [d1, d2, d3] => { results := [.lit (.bool true)], args := [d1, d2, d3] }
  | _ => none }
def provenanceWholeRow : OpenClaim := { program := "ytejhgipllmjhfaa", sum := "f07f70629ab491d76b4658819870c1ad32179213b401cc0da8341899451ca3b9", func := "archivum/archivumlaw18.ProvenanceWhole", spec := "provenanceWhole", inPlace := ["slices.overlaps[archivum/api.Came]", "slices.overlaps[int]"], unfollowed := true, recurses := true, apart := false }
def ProvenanceWholeSaid : Prop := provenanceWholeRow.holds Try.pinned (OpenSpec.ofChange provenanceWholeSpec)

/-- ITS FALSE NEIGHBOUR: 'it returns false'. Refute it at one input. -/
def provenanceWholeWrong : ChangeSpec := { name := "provenanceWhole", fn := fun _ => fun
  | [d1, d2, d3] => { results := [.lit (.bool false)], args := [d1, d2, d3] }
  | _ => none }
def ProvenanceWholeWrongFalsely : Prop := provenanceWholeRow.holds Try.pinned (OpenSpec.ofChange provenanceWholeWrong)

/- THE SECOND FORM. 'bulk': how many values and letters a reading holds, each counted each time it is reached (what is shared counts as often as it is met; a slice's spare places count too). A statement '..UptoSaid' is the law's where the arguments, and the package variables that the reading takes, are together of bulk at most 1048576: NARROWER than '..Said'. Prove '..Said' where nothing that the law and all that it calls make is longer than what came in: it says more and counts as full. Else prove '..UptoSaid'. A law counts once. -/
mutual
def uptoBulk {H : Type} : DataW H → Nat
  | .lit (.string bytes) => bytes.length + 1
  | .lit _ => 1
  | .nil => 1
  | .ptr d => uptoBulk d + 1
  | .slice elems spare => uptoBulkAll elems + uptoBulkAll spare + 1
  | .agg parts => uptoBulkAll parts + 1
  | .iface _ d => uptoBulk d + 1
  | .map entries => uptoBulkEntries entries + 1
  | .held _ => 1
def uptoBulkAll {H : Type} : List (DataW H) → Nat
  | [] => 0
  | d :: r => uptoBulk d + uptoBulkAll r
def uptoBulkEntries {H : Type} : List (Lit × DataW H) → Nat
  | [] => 0
  | x :: r => uptoBulkEntry x + uptoBulkEntries r
def uptoBulkEntry {H : Type} : Lit × DataW H → Nat
  | (.string bytes, d) => bytes.length + uptoBulk d + 1
  | (_, d) => uptoBulk d + 1
 end
def uptoSmall : (H : Type) → List (DataW H) → Bool := fun _ ds => decide (uptoBulkAll ds ≤ 1048576)
def OpenSpec.upto (s : _root_.Go.ChangeSpec) : _root_.Go.OpenSpec := { _root_.Go.OpenSpec.ofChange s with cond := some uptoSmall }

/-- 'archivumlaw18.ProvenanceChecks', WHERE WHAT IT READS IS OF BULK AT MOST 1048576: true; the input reads as it did. -/
def provenanceChecksUptoRow : OpenClaim := { program := "ytejhgipllmjhfaa", sum := "f07f70629ab491d76b4658819870c1ad32179213b401cc0da8341899451ca3b9", func := "archivum/archivumlaw18.ProvenanceChecks", spec := "provenanceChecks", inPlace := ["slices.overlaps[archivum/api.Came]"], unfollowed := true, recurses := true, apart := false, narrowed := true }
def ProvenanceChecksUptoSaid : Prop := provenanceChecksUptoRow.holds Try.pinned (OpenSpec.upto provenanceChecksSpec)

/-- 'archivumlaw18.ProvenanceAdds', WHERE WHAT IT READS IS OF BULK AT MOST 1048576: true; the input reads as it did. -/
def provenanceAddsUptoRow : OpenClaim := { program := "ytejhgipllmjhfaa", sum := "f07f70629ab491d76b4658819870c1ad32179213b401cc0da8341899451ca3b9", func := "archivum/archivumlaw18.ProvenanceAdds", spec := "provenanceAdds", inPlace := ["slices.overlaps[archivum/api.Came]"], unfollowed := true, recurses := true, apart := false, narrowed := true }
def ProvenanceAddsUptoSaid : Prop := provenanceAddsUptoRow.holds Try.pinned (OpenSpec.upto provenanceAddsSpec)

/-- 'archivumlaw18.ProvenanceOrders', WHERE WHAT IT READS IS OF BULK AT MOST 1048576: true; the input reads as it did. -/
def provenanceOrdersUptoRow : OpenClaim := { program := "ytejhgipllmjhfaa", sum := "f07f70629ab491d76b4658819870c1ad32179213b401cc0da8341899451ca3b9", func := "archivum/archivumlaw18.ProvenanceOrders", spec := "provenanceOrders", inPlace := ["slices.overlaps[archivum/api.Came]"], unfollowed := true, recurses := true, apart := false, narrowed := true }
def ProvenanceOrdersUptoSaid : Prop := provenanceOrdersUptoRow.holds Try.pinned (OpenSpec.upto provenanceOrdersSpec)

/-- 'archivumlaw18.ProvenanceCompletes', WHERE WHAT IT READS IS OF BULK AT MOST 1048576: true; the input reads as it did. -/
def provenanceCompletesUptoRow : OpenClaim := { program := "ytejhgipllmjhfaa", sum := "f07f70629ab491d76b4658819870c1ad32179213b401cc0da8341899451ca3b9", func := "archivum/archivumlaw18.ProvenanceCompletes", spec := "provenanceCompletes", inPlace := ["slices.overlaps[archivum/api.Came]"], unfollowed := true, recurses := true, apart := false, narrowed := true }
def ProvenanceCompletesUptoSaid : Prop := provenanceCompletesUptoRow.holds Try.pinned (OpenSpec.upto provenanceCompletesSpec)

/-- 'archivumlaw18.ProvenanceKeeps', WHERE WHAT IT READS IS OF BULK AT MOST 1048576: true; the input reads as it did. -/
def provenanceKeepsUptoRow : OpenClaim := { program := "ytejhgipllmjhfaa", sum := "f07f70629ab491d76b4658819870c1ad32179213b401cc0da8341899451ca3b9", func := "archivum/archivumlaw18.ProvenanceKeeps", spec := "provenanceKeeps", inPlace := ["slices.overlaps[archivum/api.Came]"], unfollowed := true, recurses := true, apart := false, narrowed := true }
def ProvenanceKeepsUptoSaid : Prop := provenanceKeepsUptoRow.holds Try.pinned (OpenSpec.upto provenanceKeepsSpec)

/-- 'archivumlaw18.ProvenanceParts', WHERE WHAT IT READS IS OF BULK AT MOST 1048576: true; the input reads as it did. -/
def provenancePartsUptoRow : OpenClaim := { program := "ytejhgipllmjhfaa", sum := "f07f70629ab491d76b4658819870c1ad32179213b401cc0da8341899451ca3b9", func := "archivum/archivumlaw18.ProvenanceParts", spec := "provenanceParts", inPlace := ["slices.overlaps[archivum/api.Came]"], unfollowed := true, recurses := true, apart := false, narrowed := true }
def ProvenancePartsUptoSaid : Prop := provenancePartsUptoRow.holds Try.pinned (OpenSpec.upto provenancePartsSpec)

/-- 'archivumlaw18.ProvenanceWhole', WHERE WHAT IT READS IS OF BULK AT MOST 1048576: true; the input reads as it did. -/
def provenanceWholeUptoRow : OpenClaim := { program := "ytejhgipllmjhfaa", sum := "f07f70629ab491d76b4658819870c1ad32179213b401cc0da8341899451ca3b9", func := "archivum/archivumlaw18.ProvenanceWhole", spec := "provenanceWhole", inPlace := ["slices.overlaps[archivum/api.Came]", "slices.overlaps[int]"], unfollowed := true, recurses := true, apart := false, narrowed := true }
def ProvenanceWholeUptoSaid : Prop := provenanceWholeUptoRow.holds Try.pinned (OpenSpec.upto provenanceWholeSpec)

end Rows
end Go.Proofs.Ytejhgipllmjhfaa
