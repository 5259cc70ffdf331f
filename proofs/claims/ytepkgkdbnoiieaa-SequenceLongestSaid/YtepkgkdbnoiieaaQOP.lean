/- Contracts of functions of the program, each proved by running its code symbolically (QOP). -/
import Derived.Test.YtepkgkdbnoiieaaQRP
namespace Go.Sx.T
open Go Go.Proofs Go.Sx
set_option maxRecDepth 100000
set_option maxHeartbeats 4000000
set_option linter.unusedVariables false
set_option linter.unusedSimpArgs false
/-! The moves of Restore sort; no fewer do. -/
/-! No fewer moves. -/
theorem above_of_rise : ∀ (L : List Int) (x : Int), L.Pairwise (· < ·) → (∀ y ∈ L, x < y) → Above x L
  | [], _, _, _ => trivial
  | y :: L, x, h, h' => by
    rw [List.pairwise_cons] at h
    exact ⟨h' y (List.mem_cons_self ..), above_of_rise L y h.2 h.1⟩
end Go.Sx.T
