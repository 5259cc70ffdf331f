/- Contracts of functions of the program, each proved by running its code symbolically (QOP). -/
import Derived.Test.YtepkgkdbnoiieaaQRP
namespace Go.Sx.T
open Go Go.Proofs Go.Sx
set_option maxRecDepth 100000
set_option maxHeartbeats 4000000
set_option linter.unusedVariables false
set_option linter.unusedSimpArgs false
/-! The moves of Restore sort; no fewer do. -/
/-! No fewer moves. -/
theorem above_of_rise : ∀ (L : List Int) (x : Int), L.Pairwise (· < ·) → (∀ y ∈ L, x < y) → Above x L
  | [], _, _, _ => trivial
  | y :: L, x, h, h' => by
    rw [List.pairwise_cons] at h
    exact ⟨h' y (List.mem_cons_self ..), above_of_rise L y h.2 h.1⟩
theorem lis_longest {l M : List Int} {x : Int} (hs : M.Sublist l) (hr : M.Pairwise (· < ·)) (hx : ∀ y ∈ M, x < y) : M.length ≤ (lis x l).length := by
  have := lis_best l x M hs (above_of_rise M x hr hx)
  simp only [btr, Bool.or_eq_false_iff, decide_eq_false_iff_not] at this
  omega
end Go.Sx.T
