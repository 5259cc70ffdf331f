/- Contracts of functions of the program, each proved by running its code symbolically (VY). -/
import Derived.Test.YtejhgipllmjhfaaVX
namespace Go.Sx.T
open Go Go.Proofs Go.Sx
set_option maxRecDepth 100000
set_option maxHeartbeats 4000000
set_option linter.unusedVariables false
set_option linter.unusedSimpArgs false
def sumA (l : List Came) (A : List Int) : Nat := (A.map fun a => (ownL l a).length).sum
def accsC (l : List Came) : List Int := foldU (gathC Came.Acc l (l.map Came.Unit))
theorem order_ok {l : List Came} (hR : RightC l) {a : Int} (hia : inI a 1 1073741824 = true) : orderC l a = ((sortN (ownL l a)).map Came.Unit, 0) := by
  rw [orderC, if_neg (by simp [(right_iff l).2 hR]), if_neg (by rw [hia]; decide)]
end Go.Sx.T
