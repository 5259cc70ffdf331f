/- Contracts of functions of the program, each proved by running its code symbolically (VG). -/
import Derived.Test.YtejhgipllmjhfaaVF
namespace Go.Sx.T
open Go Go.Proofs Go.Sx
set_option maxRecDepth 100000
set_option maxHeartbeats 4000000
set_option linter.unusedVariables false
set_option linter.unusedSimpArgs false
def errR (l : List Came) (k : Nat) : Int := if aloneC (l.getD k default) = false then 2 else if (decide (0 < (k : Int)) && decide ((l.getD k default).Unit ≤ (l.getD (k - 1) default).Unit)) = true then 5 else againstC (l.take k) (l.getD k default)
def checkR (l : List Came) : Int × Int := if 256 < l.length then (-1, 8) else firstC (errR l) l.length 0
end Go.Sx.T
