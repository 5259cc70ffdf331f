/- Contracts of functions of the program, each proved by running its code symbolically (HW2). -/
import Derived.Test.YtgnffeajpmniiaaHW
import Derived.Test.YtgnffeajpmniiaaH9
/- How a row of threes reads. -/
namespace Go.Proofs.Ytgnffeajpmniiaa
open Go Go.Sx Go.Sx.T Go.ChangeShapes Go.WideShapes Go.ChangeAt Go.RowKit
set_option linter.unusedVariables false
set_option maxRecDepth 100000
theorem rdThrees : Rd Try.prog 63 (fun l : List (Int × Int × Int) => [threes l]) (fun l => l.length ≤ maxLen ∧ ∀ a ∈ l, (InK .i64 a.1 ∧ InK .i64 a.2.1 ∧ InK .i64 a.2.2)) := rd_slice (0, 0, 0) Try.underlying63 (by kernel_rfl) (by decide) rdThree
end Go.Proofs.Ytgnffeajpmniiaa
