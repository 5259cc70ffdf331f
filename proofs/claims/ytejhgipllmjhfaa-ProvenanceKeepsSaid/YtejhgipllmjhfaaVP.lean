/- Contracts of functions of the program, each proved by running its code symbolically (VP). -/
import Derived.Test.YtejhgipllmjhfaaVO
namespace Go.Sx.T
open Go Go.Proofs Go.Sx
set_option maxRecDepth 100000
set_option maxHeartbeats 4000000
set_option linter.unusedVariables false
set_option linter.unusedSimpArgs false
theorem rise_eqK {α : Type} (f : α → Int) {a b : List α} (ha : a.Pairwise fun x y => f x < f y) (hb : b.Pairwise fun x y => f x < f y) (h : ∀ x, x ∈ a ↔ x ∈ b) : a = b := by
  induction a generalizing b with
  | nil =>
    cases b with
    | nil => rfl
    | cons y r => exact absurd ((h y).2 (by simp)) (by simp)
  | cons x a ih =>
    cases b with
    | nil => exact absurd ((h x).1 (by simp)) (by simp)
    | cons y b =>
      rw [List.pairwise_cons] at ha hb
      have hxy : x = y := by
        rcases List.mem_cons.1 ((h x).1 (by simp)) with e | hx
        · exact e
        · rcases List.mem_cons.1 ((h y).2 (by simp)) with e | hy
          · exact e.symm
          · have h1 := hb.1 x hx
            have h2 := ha.1 y hy
            omega
      subst hxy
      rw [ih ha.2 hb.2 fun z => ?_]
      constructor
      · intro hz
        rcases List.mem_cons.1 ((h z).1 (List.mem_cons_of_mem _ hz)) with e | hz'
        · have := ha.1 z hz; rw [e] at this; omega
        · exact hz'
      · intro hz
        rcases List.mem_cons.1 ((h z).2 (List.mem_cons_of_mem _ hz)) with e | hz'
        · have := hb.1 z hz; rw [e] at this; omega
        · exact hz'
def ownL (l : List Came) (a : Int) : List Came := l.filter fun c => decide (c.Acc = a)
def sortN (l : List Came) : List Came := l.mergeSort fun x y => decide (x.Num ≤ y.Num)
theorem sortN_perm (l : List Came) : (sortN l).Perm l := List.mergeSort_perm ..
theorem sortN_len (l : List Came) : (sortN l).length = l.length := List.length_mergeSort ..
theorem sortN_sorted (l : List Came) : (sortN l).Pairwise fun x y => x.Num ≤ y.Num := by
  have := List.pairwise_mergeSort (le := fun x y : Came => decide (x.Num ≤ y.Num)) (fun a b c h1 h2 => by simp at *; omega) (fun a b => by simp; omega) l
  simpa [sortN] using this
theorem own_ne {l : List Came} {a : Int} (hR : RightC l) (h0 : a ≠ 0) : (ownL l a).Pairwise fun x y => x.Num ≠ y.Num := by
  unfold ownL
  have h1 : l.Pairwise fun x y => y.Acc ≠ 0 → x.Acc = y.Acc → x.Num ≠ y.Num := by
    rw [List.pairwise_iff_getElem]
    intro i j hi hj hij h2 h3 h4
    have hc := hR.clash j hj
    rw [getD_of_lt l j hj] at hc
    rw [clashC, if_neg h2, if_pos] at hc
    · cases hc
    · rw [List.any_eq_true]
      refine ⟨l[i], ?_, by simp [twiceC, sameA, h3, h4]⟩
      rw [List.mem_iff_getElem]
      exact ⟨i, by rw [List.length_take]; omega, List.getElem_take⟩
  have h2 := h1.sublist (List.filter_sublist (p := fun c : Came => decide (c.Acc = a)))
  refine h2.imp_of_mem fun {x y} hx hy h => ?_
  rw [List.mem_filter] at hx hy
  have e1 : x.Acc = a := by simpa using hx.2
  have e2 : y.Acc = a := by simpa using hy.2
  exact h (by rw [e2]; exact h0) (by rw [e1, e2])
theorem sort_strict {l : List Came} (h : l.Pairwise fun x y => x.Num ≠ y.Num) : (sortN l).Pairwise fun x y => x.Num < y.Num := by
  have h1 : (sortN l).Pairwise fun x y => x.Num ≠ y.Num := ((sortN_perm l).pairwise_iff (fun {x y} h => Ne.symm h)).2 h
  exact (h1.and (sortN_sorted l)).imp fun {x y} h => by have := h.1; have := h.2; omega
def orderC (l : List Came) (a : Int) : List Int × Int := if (checkC l).2 ≠ 0 then ([], 1) else if inI a 1 1073741824 = false then ([], 2) else ((sortN (ownL l a)).map Came.Unit, 0)
theorem s47 (c : Came) (a : Int) : Spec Try.prog 47 [c.sv, .ref [.int .i64 a] 0] (.bool (!decide (c.Acc = a))) := by
  refine spec_of_good mixed Try.func47 F47_ok (by kernel_rfl) ?_
  refine good_run 17 (obs := []) (by kernel_rfl) trivial ?_
  refine good_fin [(!decide (c.Acc = a)) = !decide (c.Acc = a)] (by kernel_rfl) ⟨rfl, trivial⟩
def cmpN (x y : Came) : Int := cmpI x.Num y.Num
theorem s49 (x y : Came) : Spec Try.prog 49 [x.sv, y.sv] (.int .i64 (cmpN x y)) := by
  refine spec_of_good mixed Try.func49 F49_ok (by kernel_rfl) ?_
  refine good_run 15 (obs := []) (by kernel_rfl) trivial ?_
  refine good_call (c := True) (by kernel_rfl) (fun _ => SVles.refl _) (fun _ => s42 (x.Num) (y.Num)) (by kernel_rfl) ?_
  refine good_run 4 (obs := []) (by kernel_rfl) trivial ?_
  refine good_fin [cmpI x.Num y.Num = cmpN x y] (by kernel_rfl) ⟨(by rfl), trivial⟩
/-- The units of the first accession numbers. -/
def numP (l : List Came) (a : Int) (n : Nat) : List Came := (List.range n).flatMap fun m : Nat => l.filter fun c => decide (c.Acc = a) && decide (c.Num = (m : Int) + 1)
theorem numP_succ (l : List Came) (a : Int) (n : Nat) : numP l a (n + 1) = numP l a n ++ l.filter fun c => decide (c.Acc = a) && decide (c.Num = (n : Int) + 1) := by
  unfold numP
  rw [List.range_succ, List.flatMap_append]
  simp
theorem numP_spec {l : List Came} {a : Int} (h : (ownL l a).Pairwise fun x y => x.Num ≠ y.Num) : ∀ n, (numP l a n).Pairwise (fun x y => x.Num < y.Num) ∧ ∀ x, x ∈ numP l a n ↔ x ∈ ownL l a ∧ 1 ≤ x.Num ∧ x.Num ≤ n
  | 0 => ⟨by simp [numP], fun x => ⟨fun h => by simp [numP] at h, fun h => by have := h.2; omega⟩⟩
  | n + 1 => by
    obtain ⟨h1, h2⟩ := numP_spec h n
    have e : (l.filter fun c => decide (c.Acc = a) && decide (c.Num = (n : Int) + 1)) = (ownL l a).filter fun c => decide (c.Num = (n : Int) + 1) := by
      unfold ownL
      rw [List.filter_filter]
      congr 1
      funext c
      rw [Bool.and_comm]
    rw [numP_succ, e]
    refine ⟨?_, fun x => ?_⟩
    · rw [List.pairwise_append]
      refine ⟨h1, ?_, fun x hx y hy => ?_⟩
      · refine (h.sublist List.filter_sublist).imp_of_mem fun {x y} hx hy hne => ?_
        rw [List.mem_filter] at hx hy
        have e1 : x.Num = (n : Int) + 1 := by simpa using hx.2
        have e2 : y.Num = (n : Int) + 1 := by simpa using hy.2
        exact (hne (by rw [e1, e2])).elim
      · have := ((h2 x).1 hx).2.2
        rw [List.mem_filter] at hy
        have e2 : y.Num = (n : Int) + 1 := by simpa using hy.2
        omega
    · rw [List.mem_append, h2, List.mem_filter]
      simp only [decide_eq_true_eq]
      constructor
      · rintro (⟨h3, h4, h5⟩ | ⟨h3, h4⟩)
        · exact ⟨h3, h4, by omega⟩
        · exact ⟨h3, by omega, by omega⟩
      · rintro ⟨h3, h4, h5⟩
        by_cases e : x.Num = (n : Int) + 1
        · exact .inr ⟨h3, e⟩
        · exact .inl ⟨h3, h4, by omega⟩
theorem order_eq {l : List Came} {a : Int} (hR : RightC l) (hia : inI a 1 1073741824 = true) : sortN (ownL l a) = numP l a 9999 := by
  simp only [inI, Bool.and_eq_true, decide_eq_true_eq] at hia
  have hne := own_ne hR (a := a) (by omega)
  obtain ⟨h1, h2⟩ := numP_spec hne 9999
  refine rise_eqK Came.Num (sort_strict hne) h1 fun x => ?_
  rw [(sortN_perm _).mem_iff, h2]
  refine ⟨fun hx => ⟨hx, ?_⟩, fun h => h.1⟩
  unfold ownL at hx
  rw [List.mem_filter] at hx
  have ha := hR.alone x hx.1
  have e : x.Acc = a := by simpa using hx.2
  simp only [aloneC, placedC, inI, Bool.and_eq_true, Bool.or_eq_true, decide_eq_true_eq] at ha
  omega
end Go.Sx.T
