/- Contracts of functions of the program, each proved by running its code symbolically (HX). -/
import Derived.Test.YtgnffeajpmniiaaHU
namespace Go.Sx.T
open Go Go.Proofs Go.Sx
set_option maxRecDepth 100000
set_option maxHeartbeats 4000000
set_option linter.unusedVariables false
set_option linter.unusedSimpArgs false
/-- Boxes that stand once are found where they stand. -/
theorem nodup_boxes : ∀ {s : List Std}, (usedB s).Nodup → ∀ (p : Nat), p < s.length → (s.getD p default).Boxes.Nodup ∧ ∀ j, j < p → ∀ x, x ∈ (s.getD p default).Boxes → x ∉ (s.getD j default).Boxes
  | [], _, p, h => by simp at h
  | y :: r, hn, p, h => by
    rw [usedB, List.nodup_append] at hn
    obtain ⟨h1, h2, h3⟩ := hn
    cases p with
    | zero => exact ⟨by simpa using h1, by omega⟩
    | succ p =>
      obtain ⟨q1, q2⟩ := nodup_boxes h2 p (by simpa using h)
      refine ⟨by simpa using q1, fun j hj x hx => ?_⟩
      have hx' : x ∈ (r.getD p default).Boxes := by simpa using hx
      cases j with
      | zero =>
        intro hxy
        have hxy' : x ∈ y.Boxes := by simpa using hxy
        exact h3 x hxy' x ((mem_usedB x r).2 ⟨p, by simpa using h, hx'⟩) rfl
      | succ j => simpa using q2 j (by omega) x hx'
/-! Offsets. -/
end Go.Sx.T
