/- Contracts of functions of the program, each proved by running its code symbolically (QRP). -/
import Derived.Test.YtepkgkdbnoiieaaQU
namespace Go.Sx.T
open Go Go.Proofs Go.Sx
set_option maxRecDepth 100000
set_option maxHeartbeats 4000000
set_option linter.unusedVariables false
set_option linter.unusedSimpArgs false
/-! Restoring: the least number with a property; the moves. -/
theorem mem_getD {l : List Int} {x : Int} (h : x ∈ l) : ∃ i, i < l.length ∧ l.getD i 0 = x := by
  obtain ⟨i, hi, e⟩ := List.mem_iff_getElem.1 h
  exact ⟨i, hi, by rw [getD_of_lt l i hi]; exact e⟩
theorem rise_at {l : List Int} (h : l.Pairwise (· < ·)) {i j : Nat} (hij : i < j) (hj : j < l.length) : l.getD i 0 < l.getD j 0 := by
  rw [getD_of_lt l i (by omega), getD_of_lt l j hj]
  exact List.pairwise_iff_getElem.1 h i j (by omega) hj hij
end Go.Sx.T
