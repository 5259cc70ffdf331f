/- Contracts of functions of the program, each proved by running its code symbolically (HU). -/
import Derived.Test.YtgnffeajpmniiaaHT
namespace Go.Sx.T
open Go Go.Proofs Go.Sx
set_option maxRecDepth 100000
set_option maxHeartbeats 4000000
set_option linter.unusedVariables false
set_option linter.unusedSimpArgs false
structure Wide (l : List Shf) (b : List Box) (s : List Std) : Prop where
  hl : l.length ≤ 100000
  hb : b.length ≤ 100000
  hc : ∀ x ∈ b, x.Contents.length ≤ 100000
  hs : s.length ≤ 100000
  hx : ∀ y ∈ s, y.Boxes.length ≤ 100000
theorem few_wide {l : List Shf} {b : List Box} {s : List Std} (h : fewL l b s = true) : Wide l b s := by
  obtain ⟨h1, h2, h3, h4, h5⟩ := fewL_spec h
  exact ⟨by omega, by omega, fun x hx => by have := h3 x hx; omega, by omega, fun y hy => by have := h5 y hy; omega⟩
/-! Finds. -/
/-! Checks. -/
end Go.Sx.T
