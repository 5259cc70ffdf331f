/- Contracts of functions of the program, each proved by running its code symbolically (H4). -/
import Derived.Test.YtgnffeajpmniiaaH3
namespace Go.Sx.T
open Go Go.Proofs Go.Sx
set_option maxRecDepth 100000
set_option maxHeartbeats 4000000
set_option linter.unusedVariables false
set_option linter.unusedSimpArgs false
theorem insertIdx_eq {α : Type} (N : α) : ∀ (s : List α) (p : Nat), p ≤ s.length → s.insertIdx p N = s.take p ++ N :: s.drop p
  | s, 0, _ => by simp
  | [], p + 1, h => by simp at h
  | a :: s, p + 1, h => by
    rw [List.insertIdx_succ_cons, insertIdx_eq N s p (by simpa using h)]; rfl
end Go.Sx.T
