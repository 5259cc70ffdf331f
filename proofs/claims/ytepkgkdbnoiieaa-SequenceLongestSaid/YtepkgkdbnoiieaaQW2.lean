/- Contracts of functions of the program, each proved by running its code symbolically (QW2). -/
import Derived.Test.YtepkgkdbnoiieaaQW
/- How a byte and a word read. -/
namespace Go.Proofs.Ytepkgkdbnoiieaa
open Go Go.Sx Go.Sx.T Go.ChangeShapes Go.WideShapes Go.ChangeAt Go.RowKit
set_option linter.unusedVariables false
set_option maxRecDepth 100000
theorem rdU16 : Rd Try.prog 53 (fun n : Int => [.int .u16 n]) (InK .u16) := rd_int Try.underlying53
end Go.Proofs.Ytepkgkdbnoiieaa
