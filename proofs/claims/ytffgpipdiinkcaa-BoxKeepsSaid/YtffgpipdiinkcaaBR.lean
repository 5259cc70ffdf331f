/- Contracts of functions of the program, each proved by running its code symbolically (BR). -/
import Derived.Test.YtffgpipdiinkcaaBA
import Derived.Test.YtffgpipdiinkcaaSx4
import Derived.Test.YtffgpipdiinkcaaRows
/- How the arguments of the laws read. -/
namespace Go.Proofs.Ytffgpipdiinkcaa
open Go Go.Sx Go.Sx.T Go.ChangeShapes Go.WideShapes Go.ChangeAt Go.RowKit
set_option linter.unusedVariables false
set_option maxRecDepth 100000
theorem own : ownKnob Try.prog.godebug = none := by kernel_rfl
theorem laidOut : laidOutB Try.prog = true := by kernel_rfl
theorem rdI : Rd Try.prog 3 (fun n : Int => [.int .i64 n]) (InK .i64) := rd_int Try.underlying3
def inKC (p : Content) : Prop := InK .i64 p.Unit ∧ InK .i64 p.Thick
theorem rdContent : Rd Try.prog 41 Content.cells inKC :=
  (rd_struct 2 Try.underlying41 rfl (by kernel_rfl) (rdSeg_cons rdI (by kernel_rfl) (fun _ => rfl) (rdSeg_cons rdI (by kernel_rfl) (fun _ => rfl) rdSeg_nil)) (fun _ => rfl)).map (fun p => ⟨p.1, p.2.1⟩) (fun p h => ⟨⟨h.1, h.2.1⟩, rfl⟩)
theorem rdConts : Rd Try.prog 25 (fun l : List Content => [conts l]) (fun l => l.length ≤ maxLen ∧ ∀ a ∈ l, inKC a) := rd_slice default Try.underlying25 (by kernel_rfl) (by decide) rdContent
def inKB (p : Box) : Prop := InK .i64 p.ID ∧ InK .i64 p.Width ∧ InK .i64 p.Room ∧ InK .i64 p.Climate ∧ ∀ a ∈ p.Contents, inKC a
theorem rdBox : Rd Try.prog 27 Box.cells inKB :=
  (rd_struct 5 Try.underlying27 rfl (by kernel_rfl) (rdSeg_cons rdI (by kernel_rfl) (fun _ => rfl) (rdSeg_cons rdI (by kernel_rfl) (fun _ => rfl) (rdSeg_cons rdI (by kernel_rfl) (fun _ => rfl) (rdSeg_cons rdI (by kernel_rfl) (fun _ => rfl) (rdSeg_cons rdConts (by kernel_rfl) (fun _ => rfl) rdSeg_nil))))) (fun _ => rfl)).map
    (fun p => ⟨p.1, p.2.1, p.2.2.1, p.2.2.2.1, p.2.2.2.2.1⟩) (fun p h => ⟨⟨h.1, h.2.1, h.2.2.1, h.2.2.2.1, h.2.2.2.2.1.2⟩, rfl⟩)
theorem rdBoxes : Rd Try.prog 22 (fun l : List Box => [boxes l]) (fun l => l.length ≤ maxLen ∧ ∀ a ∈ l, inKB a) := rd_slice default Try.underlying22 (by kernel_rfl) (by decide) rdBox
theorem rdTwo : Rd Try.prog 47 (fun p : Int × Int => [.int .i64 p.1, .int .i64 p.2]) (fun p => InK .i64 p.1 ∧ InK .i64 p.2) :=
  (rd_array 2 Try.underlying47 rfl (by kernel_rfl) (rdSeg_cons (k := 1) rdI (by kernel_rfl) (fun _ => rfl) (rdSeg_cons (k := 1) rdI (by kernel_rfl) (fun _ => rfl) rdSeg_nil)) (fun _ => rfl)).map (fun p => (p.1, p.2.1)) (fun p h => ⟨⟨h.1, h.2.1⟩, rfl⟩)
theorem rdThree : Rd Try.prog 39 (fun p : Int × Int × Int => [.int .i64 p.1, .int .i64 p.2.1, .int .i64 p.2.2]) (fun p => InK .i64 p.1 ∧ InK .i64 p.2.1 ∧ InK .i64 p.2.2) :=
  (rd_array 3 Try.underlying39 rfl (by kernel_rfl) (rdSeg_cons (k := 1) rdI (by kernel_rfl) (fun _ => rfl) (rdSeg_cons (k := 1) rdI (by kernel_rfl) (fun _ => rfl) (rdSeg_cons (k := 1) rdI (by kernel_rfl) (fun _ => rfl) rdSeg_nil))) (fun _ => rfl)).map (fun p => (p.1, p.2.1, p.2.2.1)) (fun p h => ⟨⟨h.1, h.2.1, h.2.2.1⟩, rfl⟩)
theorem rdFive : Rd Try.prog 49 (fun p : Int × Int × Int × Int × Int => [.int .i64 p.1, .int .i64 p.2.1, .int .i64 p.2.2.1, .int .i64 p.2.2.2.1, .int .i64 p.2.2.2.2]) (fun p => InK .i64 p.1 ∧ InK .i64 p.2.1 ∧ InK .i64 p.2.2.1 ∧ InK .i64 p.2.2.2.1 ∧ InK .i64 p.2.2.2.2) :=
  (rd_array 5 Try.underlying49 rfl (by kernel_rfl) (rdSeg_cons (k := 1) rdI (by kernel_rfl) (fun _ => rfl) (rdSeg_cons (k := 1) rdI (by kernel_rfl) (fun _ => rfl) (rdSeg_cons (k := 1) rdI (by kernel_rfl) (fun _ => rfl) (rdSeg_cons (k := 1) rdI (by kernel_rfl) (fun _ => rfl) (rdSeg_cons (k := 1) rdI (by kernel_rfl) (fun _ => rfl) rdSeg_nil))))) (fun _ => rfl)).map
    (fun p => (p.1, p.2.1, p.2.2.1, p.2.2.2.1, p.2.2.2.2.1)) (fun p h => ⟨⟨h.1, h.2.1, h.2.2.1, h.2.2.2.1, h.2.2.2.2.1⟩, rfl⟩)
end Go.Proofs.Ytffgpipdiinkcaa
