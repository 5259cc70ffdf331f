/- Contracts of functions of the program, each proved by running its code symbolically (CR). -/
import Derived.Test.YteecckjnbeambaaCA
import Derived.Test.YteecckjnbeambaaSx4
import Derived.Test.YteecckjnbeambaaRows
/- How the arguments of the laws read. -/
namespace Go.Proofs.Yteecckjnbeambaa
open Go Go.Sx Go.Sx.T Go.ChangeShapes Go.WideShapes Go.ChangeAt Go.RowKit
set_option linter.unusedVariables false
set_option maxRecDepth 100000
theorem own : ownKnob Try.prog.godebug = none := by kernel_rfl
theorem laidOut : laidOutB Try.prog = true := by kernel_rfl
theorem rdI : Rd Try.prog 3 (fun n : Int => [.int .i64 n]) (InK .i64) := rd_int Try.underlying3
end Go.Proofs.Yteecckjnbeambaa
