/- Contracts of functions of the program, each proved by running its code symbolically (TR). -/
import Derived.Test.YtjkjagbpmcgifaaTA
import Derived.Test.YtjkjagbpmcgifaaSx4
import Derived.Test.YtjkjagbpmcgifaaRows
/- How the arguments of the laws read. -/
namespace Go.Proofs.Ytjkjagbpmcgifaa
open Go Go.Sx Go.Sx.T Go.ChangeShapes Go.WideShapes Go.ChangeAt Go.RowKit
set_option linter.unusedVariables false
set_option maxRecDepth 100000
theorem own : ownKnob Try.prog.godebug = none := by kernel_rfl
theorem laidOut : laidOutB Try.prog = true := by kernel_rfl
theorem rdI : Rd Try.prog 3 (fun n : Int => [.int .i64 n]) (InK .i64) := rd_int Try.underlying3
def inKSp (p : Span) : Prop := InK .i64 p.From ∧ InK .i64 p.Until
theorem rdSpan : Rd Try.prog 24 Span.cells inKSp :=
  (rd_struct 2 Try.underlying24 rfl (by kernel_rfl) (rdSeg_cons rdI (by kernel_rfl) (fun _ => rfl) (rdSeg_cons rdI (by kernel_rfl) (fun _ => rfl) rdSeg_nil)) (fun _ => rfl)).map (fun p => ⟨p.1, p.2.1⟩) (fun p h => ⟨⟨h.1, h.2.1⟩, rfl⟩)
def inKP (p : Piece) : Prop := InK .i64 p.From ∧ InK .i64 p.Until ∧ InK .i64 p.Value
theorem rdPiece : Rd Try.prog 47 Piece.cells inKP :=
  (rd_struct 3 Try.underlying47 rfl (by kernel_rfl) (rdSeg_cons (k := 2) rdSpan (by kernel_rfl) (fun _ => rfl) (rdSeg_cons rdI (by kernel_rfl) (fun _ => rfl) rdSeg_nil)) (fun _ => rfl)).map
    (fun p => ⟨p.1.From, p.1.Until, p.2.1⟩) (fun p h => ⟨⟨h.1.1, h.1.2, h.2.1⟩, rfl⟩)
theorem rdPieces : Rd Try.prog 22 (fun l : List Piece => [pieces l]) (fun l => l.length ≤ maxLen ∧ ∀ a ∈ l, inKP a) := rd_slice default Try.underlying22 (by kernel_rfl) (by decide) rdPiece
end Go.Proofs.Ytjkjagbpmcgifaa
