/- Contracts of functions of the program, each proved by running its code symbolically (HW). -/
import Derived.Test.YtgnffeajpmniiaaHA
import Derived.Test.YtgnffeajpmniiaaHF
import Derived.Test.YtgnffeajpmniiaaSx4
import Derived.Test.YtgnffeajpmniiaaRows
/- How the arguments of the laws read. -/
namespace Go.Proofs.Ytgnffeajpmniiaa
open Go Go.Sx Go.Sx.T Go.ChangeShapes Go.WideShapes Go.ChangeAt Go.RowKit
set_option linter.unusedVariables false
set_option maxRecDepth 100000
theorem own : ownKnob Try.prog.godebug = none := by kernel_rfl
theorem laidOut : laidOutB Try.prog = true := by kernel_rfl
theorem rdI : Rd Try.prog 3 (fun n : Int => [.int .i64 n]) (InK .i64) := rd_int Try.underlying3
def inKC (p : Content) : Prop := InK .i64 p.Unit ∧ InK .i64 p.Thick
theorem rdContent : Rd Try.prog 100 Content.cells inKC :=
  (rd_struct 2 Try.underlying100 rfl (by kernel_rfl) (rdSeg_cons rdI (by kernel_rfl) (fun _ => rfl) (rdSeg_cons rdI (by kernel_rfl) (fun _ => rfl) rdSeg_nil)) (fun _ => rfl)).map (fun p => ⟨p.1, p.2.1⟩) (fun p h => ⟨⟨h.1, h.2.1⟩, rfl⟩)
theorem rdConts : Rd Try.prog 49 (fun l : List Content => [conts l]) (fun l => l.length ≤ maxLen ∧ ∀ a ∈ l, inKC a) := rd_slice default Try.underlying49 (by kernel_rfl) (by decide) rdContent
def inKB (p : Box) : Prop := InK .i64 p.ID ∧ InK .i64 p.Width ∧ InK .i64 p.Room ∧ InK .i64 p.Climate ∧ ∀ a ∈ p.Contents, inKC a
theorem rdBox : Rd Try.prog 51 Box.cells inKB :=
  (rd_struct 5 Try.underlying51 rfl (by kernel_rfl) (rdSeg_cons rdI (by kernel_rfl) (fun _ => rfl) (rdSeg_cons rdI (by kernel_rfl) (fun _ => rfl) (rdSeg_cons rdI (by kernel_rfl) (fun _ => rfl) (rdSeg_cons rdI (by kernel_rfl) (fun _ => rfl) (rdSeg_cons rdConts (by kernel_rfl) (fun _ => rfl) rdSeg_nil))))) (fun _ => rfl)).map
    (fun p => ⟨p.1, p.2.1, p.2.2.1, p.2.2.2.1, p.2.2.2.2.1⟩) (fun p h => ⟨⟨h.1, h.2.1, h.2.2.1, h.2.2.2.1, h.2.2.2.2.1.2⟩, rfl⟩)
theorem rdBoxes : Rd Try.prog 23 (fun l : List Box => [boxes l]) (fun l => l.length ≤ maxLen ∧ ∀ a ∈ l, inKB a) := rd_slice default Try.underlying23 (by kernel_rfl) (by decide) rdBox
def inKH (p : Shf) : Prop := InK .i64 p.ID ∧ InK .i64 p.Repository ∧ InK .i64 p.Length ∧ InK .i64 p.Climate
theorem rdShf : Rd Try.prog 32 Shf.cells inKH :=
  (rd_struct 4 Try.underlying32 rfl (by kernel_rfl) (rdSeg_cons rdI (by kernel_rfl) (fun _ => rfl) (rdSeg_cons rdI (by kernel_rfl) (fun _ => rfl) (rdSeg_cons rdI (by kernel_rfl) (fun _ => rfl) (rdSeg_cons rdI (by kernel_rfl) (fun _ => rfl) rdSeg_nil)))) (fun _ => rfl)).map
    (fun p => ⟨p.1, p.2.1, p.2.2.1, p.2.2.2.1⟩) (fun p h => ⟨⟨h.1, h.2.1, h.2.2.1, h.2.2.2.1⟩, rfl⟩)
theorem rdShfs : Rd Try.prog 22 (fun l : List Shf => [shfs l]) (fun l => l.length ≤ maxLen ∧ ∀ a ∈ l, inKH a) := rd_slice default Try.underlying22 (by kernel_rfl) (by decide) rdShf
theorem rdInts : Rd Try.prog 45 (fun l : List Int => [ints l]) (fun l => l.length ≤ maxLen ∧ ∀ a ∈ l, InK .i64 a) := rd_slice (0 : Int) Try.underlying45 (by kernel_rfl) (by decide) rdI
def inKT (p : Std) : Prop := InK .i64 p.Shelf ∧ ∀ a ∈ p.Boxes, InK .i64 a
theorem rdStd : Rd Try.prog 47 Std.cells inKT :=
  (rd_struct 2 Try.underlying47 rfl (by kernel_rfl) (rdSeg_cons rdI (by kernel_rfl) (fun _ => rfl) (rdSeg_cons rdInts (by kernel_rfl) (fun _ => rfl) rdSeg_nil)) (fun _ => rfl)).map (fun p => ⟨p.1, p.2.1⟩) (fun p h => ⟨⟨h.1, h.2.1.2⟩, rfl⟩)
theorem rdStds : Rd Try.prog 24 (fun l : List Std => [stds l]) (fun l => l.length ≤ maxLen ∧ ∀ a ∈ l, inKT a) := rd_slice default Try.underlying24 (by kernel_rfl) (by decide) rdStd
theorem rdStore : Rd Try.prog 26 (fun p : List Shf × List Box × List Std => [shfs p.1, boxes p.2.1, stds p.2.2]) (fun _ => True) :=
  (rd_struct 3 Try.underlying26 rfl (by kernel_rfl) (rdSeg_cons (k := 1) rdShfs (by kernel_rfl) (fun _ => rfl) (rdSeg_cons (k := 1) rdBoxes (by kernel_rfl) (fun _ => rfl) (rdSeg_cons (k := 1) rdStds (by kernel_rfl) (fun _ => rfl) rdSeg_nil))) (fun _ => rfl)).map
    (fun p => (p.1, p.2.1, p.2.2.1)) (fun p h => ⟨trivial, rfl⟩)
theorem rdThree : Rd Try.prog 36 (fun p : Int × Int × Int => [.int .i64 p.1, .int .i64 p.2.1, .int .i64 p.2.2]) (fun p => InK .i64 p.1 ∧ InK .i64 p.2.1 ∧ InK .i64 p.2.2) :=
  (rd_array 3 Try.underlying36 rfl (by kernel_rfl) (rdSeg_cons (k := 1) rdI (by kernel_rfl) (fun _ => rfl) (rdSeg_cons (k := 1) rdI (by kernel_rfl) (fun _ => rfl) (rdSeg_cons (k := 1) rdI (by kernel_rfl) (fun _ => rfl) rdSeg_nil))) (fun _ => rfl)).map (fun p => (p.1, p.2.1, p.2.2.1)) (fun p h => ⟨⟨h.1, h.2.1, h.2.2.1⟩, rfl⟩)
end Go.Proofs.Ytgnffeajpmniiaa
