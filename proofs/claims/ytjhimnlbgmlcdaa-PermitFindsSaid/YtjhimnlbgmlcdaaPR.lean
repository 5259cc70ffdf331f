/- Contracts of functions of the program, each proved by running its code symbolically (PR). -/
import Derived.Test.YtjhimnlbgmlcdaaPA
import Derived.Test.YtjhimnlbgmlcdaaPD
import Derived.Test.YtjhimnlbgmlcdaaSx4
import Derived.Test.YtjhimnlbgmlcdaaRows
/- How the arguments of the laws read. -/
namespace Go.Proofs.Ytjhimnlbgmlcdaa
open Go Go.Sx Go.Sx.T Go.ChangeShapes Go.WideShapes Go.ChangeAt Go.RowKit
set_option linter.unusedVariables false
set_option maxRecDepth 100000
theorem own : ownKnob Try.prog.godebug = none := by kernel_rfl
theorem laidOut : laidOutB Try.prog = true := by kernel_rfl
theorem rdI : Rd Try.prog 3 (fun n : Int => [.int .i64 n]) (InK .i64) := rd_int Try.underlying3
theorem rdIs : Rd Try.prog 23 (fun l : List Int => [ints l]) (fun l => l.length ≤ maxLen ∧ ∀ a ∈ l, InK .i64 a) := rd_slice 0 Try.underlying23 (by kernel_rfl) (by decide) rdI
theorem rdSpan : Rd Try.prog 29 (fun p : Int × Int => [.int .i64 p.1, .int .i64 p.2]) (fun p => InK .i64 p.1 ∧ InK .i64 p.2) :=
  (rd_struct 2 Try.underlying29 rfl (by kernel_rfl) (rdSeg_cons rdI (by kernel_rfl) (fun _ => rfl) (rdSeg_cons rdI (by kernel_rfl) (fun _ => rfl) rdSeg_nil)) (fun _ => rfl)).map (fun p => (p.1, p.2.1)) (fun p h => ⟨⟨h.1, h.2.1⟩, rfl⟩)
def inKP (p : Permit) : Prop := InK .i64 p.ID ∧ InK .i64 p.Reader ∧ InK .i64 p.Unit ∧ InK .i64 p.Kinds ∧ InK .i64 p.From ∧ InK .i64 p.Until
theorem rdPermit : Rd Try.prog 31 Permit.cells inKP :=
  (rd_struct 6 Try.underlying31 rfl (by kernel_rfl) (rdSeg_cons rdI (by kernel_rfl) (fun _ => rfl) (rdSeg_cons rdI (by kernel_rfl) (fun _ => rfl) (rdSeg_cons rdI (by kernel_rfl) (fun _ => rfl) (rdSeg_cons rdI (by kernel_rfl) (fun _ => rfl) (rdSeg_cons (k := 2) rdSpan (by kernel_rfl) (fun _ => rfl) rdSeg_nil))))) (fun _ => rfl)).map
    (fun p => ⟨p.1, p.2.1, p.2.2.1, p.2.2.2.1, p.2.2.2.2.1.1, p.2.2.2.2.1.2⟩) (fun p h => ⟨⟨h.1, h.2.1, h.2.2.1, h.2.2.2.1, h.2.2.2.2.1.1, h.2.2.2.2.1.2⟩, rfl⟩)
theorem rdPermits : Rd Try.prog 22 (fun l : List Permit => [permits l]) (fun l => l.length ≤ maxLen ∧ ∀ a ∈ l, inKP a) := rd_slice default Try.underlying22 (by kernel_rfl) (by decide) rdPermit
structure Ask where
  reader : Int
  path : List Int
  kind : Int
  day : Int
theorem rdAsked : Rd Try.prog 25 (fun x : Ask => [.int .i64 x.reader, ints x.path, .int .i64 x.kind, .int .i64 x.day]) (fun x => InK .i64 x.reader ∧ (x.path.length ≤ maxLen ∧ ∀ a ∈ x.path, InK .i64 a) ∧ InK .i64 x.kind ∧ InK .i64 x.day) :=
  (rd_struct 4 Try.underlying25 rfl (by kernel_rfl) (rdSeg_cons rdI (by kernel_rfl) (fun _ => rfl) (rdSeg_cons rdIs (by kernel_rfl) (fun _ => rfl) (rdSeg_cons rdI (by kernel_rfl) (fun _ => rfl) (rdSeg_cons rdI (by kernel_rfl) (fun _ => rfl) rdSeg_nil)))) (fun _ => rfl)).map
    (fun p => ⟨p.1, p.2.1, p.2.2.1, p.2.2.2.1⟩) (fun p h => ⟨⟨h.1, h.2.1, h.2.2.1, h.2.2.2.1⟩, rfl⟩)

theorem rdTwo : Rd Try.prog 38 (fun p : Int × Int => [.int .i64 p.1, .int .i64 p.2]) (fun p => InK .i64 p.1 ∧ InK .i64 p.2) :=
  (rd_array 2 Try.underlying38 rfl (by kernel_rfl) (rdSeg_cons (k := 1) rdI (by kernel_rfl) (fun _ => rfl) (rdSeg_cons (k := 1) rdI (by kernel_rfl) (fun _ => rfl) rdSeg_nil)) (fun _ => rfl)).map (fun p => (p.1, p.2.1)) (fun p h => ⟨⟨h.1, h.2.1⟩, rfl⟩)
end Go.Proofs.Ytjhimnlbgmlcdaa
