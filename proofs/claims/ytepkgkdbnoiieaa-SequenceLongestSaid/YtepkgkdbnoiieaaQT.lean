/- Contracts of functions of the program, each proved by running its code symbolically (QT). -/
import Derived.Test.YtepkgkdbnoiieaaQS
namespace Go.Sx.T
open Go Go.Proofs Go.Sx
set_option maxRecDepth 100000
set_option maxHeartbeats 8000000
set_option linter.unusedVariables false
set_option linter.unusedSimpArgs false
end Go.Sx.T
