/- Contracts of functions of the program, each proved by running its code symbolically (CR). -/
import Derived.Test.YteecckjnbeambaaCA
import Derived.Test.YteecckjnbeambaaSx4
import Derived.Test.YteecckjnbeambaaRows
/- How the arguments of the laws read. -/
namespace Go.Proofs.Yteecckjnbeambaa
open Go Go.Sx Go.Sx.T Go.ChangeShapes Go.WideShapes Go.ChangeAt Go.RowKit
set_option linter.unusedVariables false
set_option maxRecDepth 100000
theorem own : ownKnob Try.prog.godebug = none := by kernel_rfl
theorem laidOut : laidOutB Try.prog = true := by kernel_rfl
theorem rdI : Rd Try.prog 3 (fun n : Int => [.int .i64 n]) (InK .i64) := rd_int Try.underlying3
def inKP (p : T.Place) : Prop := InK .i64 p.Kind ∧ InK .i64 p.Of
theorem rdPlace : Rd Try.prog 24 T.Place.cells inKP :=
  (rd_struct 2 Try.underlying24 rfl (by kernel_rfl) (rdSeg_cons rdI (by kernel_rfl) (fun _ => rfl) (rdSeg_cons rdI (by kernel_rfl) (fun _ => rfl) rdSeg_nil)) (fun _ => rfl)).map (fun p => ⟨p.1, p.2.1⟩) (fun p h => ⟨⟨h.1, h.2.1⟩, rfl⟩)
def inKM (p : T.Move) : Prop := InK .i64 p.Day ∧ InK .i64 p.Box ∧ inKP p.From ∧ inKP p.To
theorem rdMove : Rd Try.prog 26 T.Move.cells inKM :=
  (rd_struct 6 Try.underlying26 rfl (by kernel_rfl) (rdSeg_cons rdI (by kernel_rfl) (fun _ => rfl) (rdSeg_cons rdI (by kernel_rfl) (fun _ => rfl) (rdSeg_cons (k := 2) rdPlace (by kernel_rfl) (fun _ => rfl) (rdSeg_cons (k := 2) rdPlace (by kernel_rfl) (fun _ => rfl) rdSeg_nil)))) (fun _ => rfl)).map
    (fun p => ⟨p.1, p.2.1, p.2.2.1, p.2.2.2.1⟩) (fun p h => ⟨⟨h.1, h.2.1, h.2.2.1, h.2.2.2.1⟩, rfl⟩)
theorem rdMoves : Rd Try.prog 22 (fun l : List T.Move => [moves l]) (fun l => l.length ≤ maxLen ∧ ∀ a ∈ l, inKM a) := rd_slice default Try.underlying22 (by kernel_rfl) (by decide) rdMove
theorem rdTwo : Rd Try.prog 37 (fun p : Int × Int => [.int .i64 p.1, .int .i64 p.2]) (fun p => InK .i64 p.1 ∧ InK .i64 p.2) :=
  (rd_array 2 Try.underlying37 rfl (by kernel_rfl) (rdSeg_cons (k := 1) rdI (by kernel_rfl) (fun _ => rfl) (rdSeg_cons (k := 1) rdI (by kernel_rfl) (fun _ => rfl) rdSeg_nil)) (fun _ => rfl)).map (fun p => (p.1, p.2.1)) (fun p h => ⟨⟨h.1, h.2.1⟩, rfl⟩)
end Go.Proofs.Yteecckjnbeambaa
