/- Contracts of functions of the program, each proved by running its code symbolically (SxKeys). -/
import Derived.Test.YteecckjnbeambaaSxSort
import Derived.Test.YteecckjnbeambaaSx4
import Derived.Shelf.SlIterI.Sorted
/- The library's slices.Sorted(maps.Keys(m)) at a map with keys of type int, as a contract of the executor's. -/
namespace Go.Sx
open Go Go.RowKit Go.Sort Go.Proofs Go.Shelf Go.Maps
set_option linter.unusedVariables false
set_option linter.unusedSimpArgs false

theorem isort_of_perm {a b : List Int} (h : a.Perm b) : isort a = isort b := by
  have h1 := (isort_perm a).trans (h.trans (isort_perm b).symm)
  exact List.Perm.eq_of_pairwise (le := (· ≤ ·)) (fun x y _ _ h1 h2 => Int.le_antisymm h1 h2) (isort_sorted a) (isort_sorted b) h1

end Go.Sx
