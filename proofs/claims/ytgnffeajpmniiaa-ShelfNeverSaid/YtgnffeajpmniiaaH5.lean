/- Contracts of functions of the program, each proved by running its code symbolically (H5). -/
import Derived.Test.YtgnffeajpmniiaaH4
namespace Go.Sx.T
open Go Go.Proofs Go.Sx
set_option maxRecDepth 100000
set_option maxHeartbeats 4000000
set_option linter.unusedVariables false
set_option linter.unusedSimpArgs false
theorem placeL_len {s : List Std} {x0 x1 : Int} {k n : Nat} (hx : ∀ y ∈ s, y.Boxes.length ≤ n) (hk : k ≤ (boxesOf s x1).length) (hb : (boxesOf s x1).length ≤ n) : ∀ y ∈ placeL s x0 x1 k, y.Boxes.length ≤ n + 1 := by
  intro y hy
  unfold placeL at hy
  split at hy
  · rcases List.mem_or_eq_of_mem_set hy with h | h
    · have := hx y h; omega
    · subst h
      show ((boxesOf s x1).insertIdx k x0).length ≤ n + 1
      rw [List.length_insertIdx, if_pos hk]; omega
  · rcases (List.mem_insertIdx (posK_le s Std.Shelf x1)).1 hy with h | h
    · subst h
      show 1 ≤ n + 1
      omega
    · have := hx y h; omega
theorem placeR_len {l : List Shf} {b : List Box} {s : List Std} {x0 x1 x2 : Int} {n : Nat} (hx : ∀ y ∈ s, y.Boxes.length ≤ n) : ∀ y ∈ (placeR l b s x0 x1 x2).1, y.Boxes.length ≤ n + 1 := by
  intro y hy
  unfold placeR placeQ at hy
  split at hy
  · cases hy
  split at hy
  · cases hy
  split at hy
  · cases hy
  split at hy
  · cases hy
  rename_i hin
  split at hy
  · cases hy
  split at hy
  · cases hy
  have hin' : inB x2 0 (boxesOf s x1).length = true := by simpa using hin
  simp only [inB, Bool.and_eq_true, decide_eq_true_eq] at hin'
  refine placeL_len hx (by omega) ?_ y hy
  unfold boxesOf
  rcases isK_cases s Std.Shelf x1 with ⟨_, e, _⟩ | ⟨k, hk, _, e, _⟩
  · rw [e]; exact Nat.zero_le _
  · rw [e]; exact hx _ (getD_mem s default k hk)
theorem removeR_len {l : List Shf} {b : List Box} {s : List Std} {id : Int} {n : Nat} (hx : ∀ y ∈ s, y.Boxes.length ≤ n) : ∀ y ∈ (removeR l b s id).1, y.Boxes.length ≤ n := by
  intro y hy
  unfold removeR at hy
  split at hy
  · cases hy
  split at hy
  · cases hy
  split at hy
  · cases hy
  rename_i hf
  rcases findP_cases id s 0 with ⟨g1, g2⟩ | ⟨i, k, hi, hk, g1, g2, g3, g4⟩
  · rw [g1] at hf; exact absurd (by decide) hf
  · rw [Nat.zero_add] at g1
    rw [g1] at hy
    have hy' : y ∈ removeL s i k := hy
    unfold removeL at hy'
    split at hy'
    · exact hx y (List.mem_of_mem_eraseIdx hy')
    · rcases List.mem_or_eq_of_mem_set hy' with h | h
      · exact hx y h
      · subst h
        show ((s.getD i default).Boxes.eraseIdx k).length ≤ n
        have := hx _ (getD_mem s default i hi)
        rw [List.length_eraseIdx, if_pos hk]; omega
/-! Places. -/
end Go.Sx.T
