/- Contracts of functions of the program, each proved by running its code symbolically (VR). -/
import Derived.Test.YtejhgipllmjhfaaVQ
namespace Go.Sx.T
open Go Go.Proofs Go.Sx
set_option maxRecDepth 100000
set_option maxHeartbeats 4000000
set_option linter.unusedVariables false
set_option linter.unusedSimpArgs false
def numF (a : Int) (n : Nat) (c : Came) : Bool := decide (c.Acc = a) && decide (c.Num = (n : Int) + 1)
def unitsQ (l : List Came) (a : Int) (n k : Nat) : List Int := (numP l a n ++ (l.take k).filter (numF a n)).map Came.Unit
end Go.Sx.T
