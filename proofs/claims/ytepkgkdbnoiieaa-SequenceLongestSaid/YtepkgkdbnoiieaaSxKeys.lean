/- Contracts of functions of the program, each proved by running its code symbolically (SxKeys). -/
import Derived.Test.YtepkgkdbnoiieaaSxSort
import Derived.Test.YtepkgkdbnoiieaaSx4
import Derived.Shelf.SlIterI.Sorted
/- The library's slices.Sorted(maps.Keys(m)) at a map with keys of type int, as a contract of the executor's. -/
namespace Go.Sx
open Go Go.RowKit Go.Sort Go.Proofs Go.Shelf Go.Maps
set_option linter.unusedVariables false
set_option linter.unusedSimpArgs false

end Go.Sx
