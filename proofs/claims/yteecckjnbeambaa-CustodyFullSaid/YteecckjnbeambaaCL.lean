/- Contracts of functions of the program, each proved by running its code symbolically (CL). -/
import Derived.Test.YteecckjnbeambaaCK
namespace Go.Sx.T
open Go Go.Proofs Go.Sx
set_option maxRecDepth 100000
set_option maxHeartbeats 4000000
set_option linter.unusedVariables false
set_option linter.unusedSimpArgs false
/-! The boxes by the program. -/
end Go.Sx.T
