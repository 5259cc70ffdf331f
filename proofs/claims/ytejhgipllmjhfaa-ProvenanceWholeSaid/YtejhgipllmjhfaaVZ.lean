/- Contracts of functions of the program, each proved by running its code symbolically (VZ). -/
import Derived.Test.YtejhgipllmjhfaaVY
namespace Go.Sx.T
open Go Go.Proofs Go.Sx
set_option maxRecDepth 100000
set_option maxHeartbeats 4000000
set_option linter.unusedVariables false
set_option linter.unusedSimpArgs false
def zeroP (l : List Came) (k : Nat) : Nat := (ownL (l.take k) 0).length
def lastN (S : List Came) (j : Nat) : Int := if j = 0 then 0 else (S.getD (j - 1) default).Num
end Go.Sx.T
