/- Contracts of functions of the program, each proved by running its code symbolically (SxSort). -/
import Derived.Test.YteecckjnbeambaaSx4
import Derived.Shelf.Sort.Plain
import Derived.Shelf.Slices.In.SortNone
import Derived.Sort.OwnSortedInts
/- The library's slices.Sort at []int, as a contract of the executor's. -/
namespace Go.Sx
open Go Go.RowKit Go.Sort Go.Proofs Go.Shelf
set_option linter.unusedVariables false

def isort (l : List Int) : List Int := l.mergeSort fun x y => decide (x ≤ y)
theorem isort_length (l : List Int) : (isort l).length = l.length := List.length_mergeSort ..
theorem isort_perm (l : List Int) : (isort l).Perm l := List.mergeSort_perm ..
theorem isort_sorted (l : List Int) : (isort l).Pairwise (· ≤ ·) := by
  have := List.pairwise_mergeSort (le := fun x y : Int => decide (x ≤ y)) (fun a b c h1 h2 => by simp at *; omega) (fun a b => by simp; omega) l
  simpa [isort] using this

theorem sort_spec {P : Program} {ρ : Ren} (Ly : Lays.n189 P ρ) (hb : HasBody P (ρ.f 189)) (e : TypeId) (l : List Int) (h : l.length ≤ 4000000000000000000) :
    SpecSort P (ρ.f 189) [] e 1 l.length (fun i => [.int .i64 (l.getD i 0)]) [] (fun i => [.int .i64 ((isort l).getD i 0)]) := by
  refine ⟨hb, fun w M base us vs v hM hbase hMv hus hvs _ _ hok => ?_⟩
  obtain rfl : us = [] := List.eq_nil_of_length_eq_zero (by simpa using hus.symm)
  obtain rfl : vs = [] := List.eq_nil_of_length_eq_zero (by simpa using hvs.symm)
  obtain ⟨xs, ho, hz, hone, hd⟩ := hok
  have hlx : xs.length = l.length := by have := ho.1; omega
  have hxs : xs = l.map (Value.int .i64) := by
    apply List.ext_getElem?
    intro i
    by_cases hi : i < l.length
    · have h1 := hd i 0 _ (xs[i]'(by omega)) hi rfl (by rw [Nat.mul_one, Nat.add_zero]; exact List.getElem?_eq_getElem (by omega))
      rw [List.getElem?_eq_getElem (by omega), List.getElem?_map, List.getElem?_eq_getElem hi]
      cases h1' : xs[i]'(by omega) <;> rw [h1'] at h1 <;> cases h1
      rw [getD_of_lt l i hi]; rfl
    · rw [List.getElem?_eq_none (by omega), List.getElem?_eq_none (by simp; omega)]
  subst hxs
  rcases ho.2 with ⟨rfl, h0⟩ | ⟨g, cap, cur, rfl, hg, hh, hn, hcap, hsz, htk⟩
  · have hl0 : l = [] := by
      have : l.length = 0 := by simpa using h0
      exact List.eq_nil_of_length_eq_zero this
    subst hl0
    refine (Any.slices_Sort_int_none Ly none 0 w).mono fun ex w' ⟨he, hw⟩ => ?_
    subst hw
    refine ⟨he, ⟨rfl, rfl, rfl, Nat.le_refl _, fun _ _ _ => rfl⟩, [], ho, fun i hi => absurd hi (Nat.not_lt_zero _), hone, fun i j s u hi => absurd hi (Nat.not_lt_zero _)⟩
  · have hgl : g < w.heap.size := (Array.getElem?_eq_some_iff.1 hh).1
    have hholds := holds_of_blockI (ss := l) hh (by rw [← htk, Nat.mul_one])
    refine (Any.slices_Sort_int Ly g 0 cap l w hholds hgl (by omega)).mono fun ex w' ⟨he, n, os, hw⟩ => ?_
    subst hw
    have hown := ownsRow_sortedI (w := w) (base := base) (n := n) (os := os) (ss := l) (ts := isort l) (isort_length l) hg hh hn hcap hsz
    refine ⟨he, grownBy_sortedI _, _, hown, fun i hi => rfl, ?_, ?_⟩
    · intro g' cur' t' fr' hb' hh' u hu
      simp only [blkNo, Option.some.injEq] at hb'
      subst hb'
      have h1 := heap_sortedI (n := n) (os := os) (isort l).toArray hh
      rw [show (l.mergeSort fun x y => decide (x ≤ y)) = isort l from rfl] at hh'
      rw [h1] at hh'
      injection hh' with hh'
      injection hh' with q1 q2 q3
      subst q1
      obtain ⟨i, hi⟩ := List.mem_iff_getElem?.1 hu
      rw [Array.getElem?_toList] at hi
      unfold putCells at hi
      rw [Array.getElem?_mapIdx] at hi
      cases hc : cur[i]? with
      | none => rw [hc] at hi; cases hi
      | some x =>
        rw [hc] at hi
        simp only [Option.map_some, Option.some.injEq] at hi
        subst hi
        split
        · rfl
        · exact hone g cur e (0, 0) rfl hh x (by rw [Array.mem_toList_iff]; exact Array.mem_of_getElem? hc)
    · intro i j s u hi hj hu
      cases j with
      | succ j => simp at hj
      | zero =>
        have hi' : i < (isort l).length := by rw [isort_length]; exact hi
        rw [Nat.mul_one, Nat.add_zero, List.getElem?_map, List.getElem?_eq_getElem hi'] at hu
        simp only [List.getElem?_cons_zero, Option.some.injEq, Option.map_some] at hj hu
        subst hj hu
        rw [getD_of_lt _ i hi']
        exact .int _ _
end Go.Sx
