/- Contracts of functions of the program, each proved by running its code symbolically (RR). -/
import Derived.Test.YtdiikneggikfkaaRE
import Derived.Test.YtdiikneggikfkaaSx4
import Derived.Test.YtdiikneggikfkaaRows
/- How the arguments of the laws read. -/
namespace Go.Proofs.Ytdiikneggikfkaa
open Go Go.Sx Go.Sx.T Go.ChangeShapes Go.WideShapes Go.ChangeAt Go.RowKit
set_option linter.unusedVariables false
set_option maxRecDepth 100000
theorem own : ownKnob Try.prog.godebug = none := by kernel_rfl
theorem laidOut : laidOutB Try.prog = true := by kernel_rfl
theorem rdI : Rd Try.prog 3 (fun n : Int => [.int .i64 n]) (InK .i64) := rd_int Try.underlying3
theorem rdSpan : Rd Try.prog 29 (fun p : Int × Int => [.int .i64 p.1, .int .i64 p.2]) (fun p => InK .i64 p.1 ∧ InK .i64 p.2) :=
  (rd_struct 2 Try.underlying29 rfl (by kernel_rfl) (rdSeg_cons rdI (by kernel_rfl) (fun _ => rfl) (rdSeg_cons rdI (by kernel_rfl) (fun _ => rfl) rdSeg_nil)) (fun _ => rfl)).map (fun p => (p.1, p.2.1)) (fun p h => ⟨⟨h.1, h.2.1⟩, rfl⟩)
def inKB (p : Bk) : Prop := InK .i64 p.ID ∧ InK .i64 p.Rd ∧ InK .i64 p.F ∧ InK .i64 p.U
theorem rdBk : Rd Try.prog 31 Bk.cells inKB :=
  (rd_struct 4 Try.underlying31 rfl (by kernel_rfl) (rdSeg_cons rdI (by kernel_rfl) (fun _ => rfl) (rdSeg_cons rdI (by kernel_rfl) (fun _ => rfl) (rdSeg_cons (k := 2) rdSpan (by kernel_rfl) (fun _ => rfl) rdSeg_nil))) (fun _ => rfl)).map
    (fun p => ⟨p.1, p.2.1, p.2.2.1.1, p.2.2.1.2⟩) (fun p h => ⟨⟨h.1, h.2.1, h.2.2.1.1, h.2.2.1.2⟩, rfl⟩)
theorem rdBks : Rd Try.prog 22 (fun l : List Bk => [bks l]) (fun l => l.length ≤ maxLen ∧ ∀ a ∈ l, inKB a) := rd_slice default Try.underlying22 (by kernel_rfl) (by decide) rdBk
theorem rdFour : Rd Try.prog 47 (fun p : Int × Int × Int × Int => [.int .i64 p.1, .int .i64 p.2.1, .int .i64 p.2.2.1, .int .i64 p.2.2.2]) (fun p => InK .i64 p.2.2.2) :=
  (rd_array 4 Try.underlying47 rfl (by kernel_rfl) (rdSeg_cons (k := 1) rdI (by kernel_rfl) (fun _ => rfl) (rdSeg_cons (k := 1) rdI (by kernel_rfl) (fun _ => rfl) (rdSeg_cons (k := 1) rdI (by kernel_rfl) (fun _ => rfl) (rdSeg_cons (k := 1) rdI (by kernel_rfl) (fun _ => rfl) rdSeg_nil)))) (fun _ => rfl)).map
    (fun p => (p.1, p.2.1, p.2.2.1, p.2.2.2.1)) (fun p h => ⟨h.2.2.2.1, rfl⟩)
end Go.Proofs.Ytdiikneggikfkaa
