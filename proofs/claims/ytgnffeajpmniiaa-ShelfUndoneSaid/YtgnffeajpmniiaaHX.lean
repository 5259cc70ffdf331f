/- Contracts of functions of the program, each proved by running its code symbolically (HX). -/
import Derived.Test.YtgnffeajpmniiaaHU
namespace Go.Sx.T
open Go Go.Proofs Go.Sx
set_option maxRecDepth 100000
set_option maxHeartbeats 4000000
set_option linter.unusedVariables false
set_option linter.unusedSimpArgs false
/-- Boxes that stand once are found where they stand. -/
theorem nodup_boxes : ∀ {s : List Std}, (usedB s).Nodup → ∀ (p : Nat), p < s.length → (s.getD p default).Boxes.Nodup ∧ ∀ j, j < p → ∀ x, x ∈ (s.getD p default).Boxes → x ∉ (s.getD j default).Boxes
  | [], _, p, h => by simp at h
  | y :: r, hn, p, h => by
    rw [usedB, List.nodup_append] at hn
    obtain ⟨h1, h2, h3⟩ := hn
    cases p with
    | zero => exact ⟨by simpa using h1, by omega⟩
    | succ p =>
      obtain ⟨q1, q2⟩ := nodup_boxes h2 p (by simpa using h)
      refine ⟨by simpa using q1, fun j hj x hx => ?_⟩
      have hx' : x ∈ (r.getD p default).Boxes := by simpa using hx
      cases j with
      | zero =>
        intro hxy
        have hxy' : x ∈ y.Boxes := by simpa using hxy
        exact h3 x hxy' x ((mem_usedB x r).2 ⟨p, by simpa using h, hx'⟩) rfl
      | succ j => simpa using q2 j (by omega) x hx'
theorem findI_nodup {x : List Int} (h : x.Nodup) (k : Nat) (hk : k < x.length) : findI x (eqK (x.getD k 0)) = k := by
  refine findI_hit x _ k hk (show decide (x.getD k 0 = x.getD k 0) = true from decide_eq_true rfl) (fun j hj => show decide (x.getD j 0 = x.getD k 0) = false from decide_eq_false fun e => ?_)
  rw [List.nodup_iff_pairwise_ne, List.pairwise_iff_getElem] at h
  have := h j k (by omega) hk hj
  rw [getD_of_lt _ j (by omega), getD_of_lt _ k hk] at e
  exact this e
theorem findP_at {l : List Shf} {b : List Box} {s : List Std} (hR : Right l b s) (p k : Nat) (hp : p < s.length) (hk : k < (s.getD p default).Boxes.length) : findP ((s.getD p default).Boxes.getD k 0) 0 s = ((p : Int), (k : Int)) := by
  obtain ⟨h1, h2⟩ := nodup_boxes hR.nd p hp
  have := findP_hit ((s.getD p default).Boxes.getD k 0) s 0 p k hp (fun j hj => h2 j hj _ (getD_mem _ 0 k hk)) (findI_nodup h1 k hk)
  rwa [Nat.zero_add] at this
/-! Offsets. -/
end Go.Sx.T
