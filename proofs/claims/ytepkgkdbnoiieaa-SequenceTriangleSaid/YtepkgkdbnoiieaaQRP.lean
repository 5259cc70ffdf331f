/- Contracts of functions of the program, each proved by running its code symbolically (QRP). -/
import Derived.Test.YtepkgkdbnoiieaaQU
namespace Go.Sx.T
open Go Go.Proofs Go.Sx
set_option maxRecDepth 100000
set_option maxHeartbeats 4000000
set_option linter.unusedVariables false
set_option linter.unusedSimpArgs false
/-! Restoring: the least number with a property; the moves. -/
end Go.Sx.T
