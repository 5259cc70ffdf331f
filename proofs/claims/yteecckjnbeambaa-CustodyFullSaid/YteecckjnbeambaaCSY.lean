/- Contracts of functions of the program, each proved by running its code symbolically (CSY). -/
import Derived.Shelf.SlIterI.Sorted
import Derived.KernelRfl
import Derived.Test.YteecckjnbeambaaProg
/- A contract of the library, laid at the program: the table of numbers, and that the bodies are those that the contract speaks of. -/
set_option maxRecDepth 100000
namespace Go.Sx.T
open Go Go.Proofs Go.Shelf
end Go.Sx.T
