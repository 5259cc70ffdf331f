/- Contracts of functions of the program, each proved by running its code symbolically (VF). -/
import Derived.Test.YtejhgipllmjhfaaVE
namespace Go.Sx.T
open Go Go.Proofs Go.Sx
set_option maxRecDepth 100000
set_option maxHeartbeats 4000000
set_option linter.unusedVariables false
set_option linter.unusedSimpArgs false
def agC (c x : Came) : Bool := decide (x.Unit = c.Unit) || (!decide (c.Acc = 0) && decide (x.Acc = c.Acc) && decide (x.Num = c.Num))
def agO (c x : Came) : Bool := !decide (c.Acc = 0) && decide (x.Acc = c.Acc) && !decide (x.Office = c.Office)
def againstC (l : List Came) (c : Came) : Int := if l.any (agC c) = true then 6 else if l.any (agO c) = true then 10 else 0
end Go.Sx.T
