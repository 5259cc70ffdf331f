/- Contracts of functions of the program, each proved by running its code symbolically (QW). -/
import Derived.Test.YtepkgkdbnoiieaaQA
import Derived.Test.YtepkgkdbnoiieaaSx4
import Derived.Test.YtepkgkdbnoiieaaRows
/- How the arguments of the laws read. -/
namespace Go.Proofs.Ytepkgkdbnoiieaa
open Go Go.Sx Go.Sx.T Go.ChangeShapes Go.WideShapes Go.ChangeAt Go.RowKit
set_option linter.unusedVariables false
set_option maxRecDepth 100000
theorem own : ownKnob Try.prog.godebug = none := by kernel_rfl
theorem laidOut : laidOutB Try.prog = true := by kernel_rfl
theorem rdI : Rd Try.prog 3 (fun n : Int => [.int .i64 n]) (InK .i64) := rd_int Try.underlying3
theorem rdInts : Rd Try.prog 22 (fun l : List Int => [ints l]) (fun l => l.length ≤ maxLen ∧ ∀ a ∈ l, InK .i64 a) := rd_slice default Try.underlying22 (by kernel_rfl) (by decide) rdI
end Go.Proofs.Ytepkgkdbnoiieaa
