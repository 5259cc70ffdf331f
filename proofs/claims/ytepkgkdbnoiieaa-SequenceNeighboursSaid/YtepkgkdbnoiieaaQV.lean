/- Contracts of functions of the program, each proved by running its code symbolically (QV). -/
import Derived.Test.YtepkgkdbnoiieaaQU
namespace Go.Sx.T
open Go Go.Proofs Go.Sx
set_option maxRecDepth 100000
set_option maxHeartbeats 8000000
set_option linter.unusedVariables false
set_option linter.unusedSimpArgs false
theorem isort_iff {l m : List Int} : isort l = isort m ↔ l.Perm m :=
  ⟨fun h => (isort_perm l).symm.trans (by rw [h]; exact isort_perm m), fun h => isort_of_perm h⟩
theorem find_neg {m : List Int} {n : Int} : findI m (eqK n) < 0 ↔ n ∉ m := by
  have := any_mem m n
  constructor
  · intro h hm
    rw [decide_eq_true hm, decide_eq_true_eq] at this
    omega
  · intro h
    rw [decide_eq_false h, decide_eq_false_iff_not] at this
    omega
end Go.Sx.T
