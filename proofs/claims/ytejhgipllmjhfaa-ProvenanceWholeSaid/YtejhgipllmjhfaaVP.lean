/- Contracts of functions of the program, each proved by running its code symbolically (VP). -/
import Derived.Test.YtejhgipllmjhfaaVO
namespace Go.Sx.T
open Go Go.Proofs Go.Sx
set_option maxRecDepth 100000
set_option maxHeartbeats 4000000
set_option linter.unusedVariables false
set_option linter.unusedSimpArgs false
theorem rise_eqK {α : Type} (f : α → Int) {a b : List α} (ha : a.Pairwise fun x y => f x < f y) (hb : b.Pairwise fun x y => f x < f y) (h : ∀ x, x ∈ a ↔ x ∈ b) : a = b := by
  induction a generalizing b with
  | nil =>
    cases b with
    | nil => rfl
    | cons y r => exact absurd ((h y).2 (by simp)) (by simp)
  | cons x a ih =>
    cases b with
    | nil => exact absurd ((h x).1 (by simp)) (by simp)
    | cons y b =>
      rw [List.pairwise_cons] at ha hb
      have hxy : x = y := by
        rcases List.mem_cons.1 ((h x).1 (by simp)) with e | hx
        · exact e
        · rcases List.mem_cons.1 ((h y).2 (by simp)) with e | hy
          · exact e.symm
          · have h1 := hb.1 x hx
            have h2 := ha.1 y hy
            omega
      subst hxy
      rw [ih ha.2 hb.2 fun z => ?_]
      constructor
      · intro hz
        rcases List.mem_cons.1 ((h z).1 (List.mem_cons_of_mem _ hz)) with e | hz'
        · have := ha.1 z hz; rw [e] at this; omega
        · exact hz'
      · intro hz
        rcases List.mem_cons.1 ((h z).2 (List.mem_cons_of_mem _ hz)) with e | hz'
        · have := hb.1 z hz; rw [e] at this; omega
        · exact hz'
def ownL (l : List Came) (a : Int) : List Came := l.filter fun c => decide (c.Acc = a)
def sortN (l : List Came) : List Came := l.mergeSort fun x y => decide (x.Num ≤ y.Num)
theorem sortN_perm (l : List Came) : (sortN l).Perm l := List.mergeSort_perm ..
theorem sortN_len (l : List Came) : (sortN l).length = l.length := List.length_mergeSort ..
theorem sortN_sorted (l : List Came) : (sortN l).Pairwise fun x y => x.Num ≤ y.Num := by
  have := List.pairwise_mergeSort (le := fun x y : Came => decide (x.Num ≤ y.Num)) (fun a b c h1 h2 => by simp at *; omega) (fun a b => by simp; omega) l
  simpa [sortN] using this
theorem own_ne {l : List Came} {a : Int} (hR : RightC l) (h0 : a ≠ 0) : (ownL l a).Pairwise fun x y => x.Num ≠ y.Num := by
  unfold ownL
  have h1 : l.Pairwise fun x y => y.Acc ≠ 0 → x.Acc = y.Acc → x.Num ≠ y.Num := by
    rw [List.pairwise_iff_getElem]
    intro i j hi hj hij h2 h3 h4
    have hc := hR.clash j hj
    rw [getD_of_lt l j hj] at hc
    rw [clashC, if_neg h2, if_pos] at hc
    · cases hc
    · rw [List.any_eq_true]
      refine ⟨l[i], ?_, by simp [twiceC, sameA, h3, h4]⟩
      rw [List.mem_iff_getElem]
      exact ⟨i, by rw [List.length_take]; omega, List.getElem_take⟩
  have h2 := h1.sublist (List.filter_sublist (p := fun c : Came => decide (c.Acc = a)))
  refine h2.imp_of_mem fun {x y} hx hy h => ?_
  rw [List.mem_filter] at hx hy
  have e1 : x.Acc = a := by simpa using hx.2
  have e2 : y.Acc = a := by simpa using hy.2
  exact h (by rw [e2]; exact h0) (by rw [e1, e2])
theorem sort_strict {l : List Came} (h : l.Pairwise fun x y => x.Num ≠ y.Num) : (sortN l).Pairwise fun x y => x.Num < y.Num := by
  have h1 : (sortN l).Pairwise fun x y => x.Num ≠ y.Num := ((sortN_perm l).pairwise_iff (fun {x y} h => Ne.symm h)).2 h
  exact (h1.and (sortN_sorted l)).imp fun {x y} h => by have := h.1; have := h.2; omega
def orderC (l : List Came) (a : Int) : List Int × Int := if (checkC l).2 ≠ 0 then ([], 1) else if inI a 1 1073741824 = false then ([], 2) else ((sortN (ownL l a)).map Came.Unit, 0)
theorem s47 (c : Came) (a : Int) : Spec Try.prog 47 [c.sv, .ref [.int .i64 a] 0] (.bool (!decide (c.Acc = a))) := by
  refine spec_of_good mixed Try.func47 F47_ok (by kernel_rfl) ?_
  refine good_run 17 (obs := []) (by kernel_rfl) trivial ?_
  refine good_fin [(!decide (c.Acc = a)) = !decide (c.Acc = a)] (by kernel_rfl) ⟨rfl, trivial⟩
def cmpN (x y : Came) : Int := cmpI x.Num y.Num
/-- The units of the first accession numbers. -/
def numP (l : List Came) (a : Int) (n : Nat) : List Came := (List.range n).flatMap fun m : Nat => l.filter fun c => decide (c.Acc = a) && decide (c.Num = (m : Int) + 1)
end Go.Sx.T
