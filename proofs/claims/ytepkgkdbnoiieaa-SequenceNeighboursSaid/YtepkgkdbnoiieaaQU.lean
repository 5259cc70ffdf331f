/- Contracts of functions of the program, each proved by running its code symbolically (QU). -/
import Derived.Test.YtepkgkdbnoiieaaQT
namespace Go.Sx.T
open Go Go.Proofs Go.Sx
set_option maxRecDepth 100000
set_option maxHeartbeats 4000000
set_option linter.unusedVariables false
set_option linter.unusedSimpArgs false
/-! Pairs in the wrong order. -/
def cLe (x : Int) : List Int → Int
  | [] => 0
  | y :: r => (if y ≤ x then 1 else 0) + cLe x r
def cGe (y : Int) : List Int → Int
  | [] => 0
  | x :: r => (if y ≤ x then 1 else 0) + cGe y r
def crs : List Int → List Int → Int
  | [], _ => 0
  | x :: A, B => cLe x B + crs A B
def invC : List Int → Int
  | [] => 0
  | x :: r => cLe x r + invC r
theorem cLe_perm (x : Int) {A B : List Int} (h : A.Perm B) : cLe x A = cLe x B := by
  induction h with
  | nil => rfl
  | cons y _ ih => rw [cLe, cLe, ih]
  | swap y z r => simp only [cLe]; omega
  | trans _ _ h1 h2 => exact h1.trans h2
theorem cLe_append (x : Int) : ∀ A B, cLe x (A ++ B) = cLe x A + cLe x B
  | [], B => by rw [List.nil_append, cLe]; omega
  | y :: A, B => by rw [List.cons_append, cLe, cLe, cLe_append x A B]; omega
theorem crs_perm_right : ∀ (A : List Int) {B C : List Int}, B.Perm C → crs A B = crs A C
  | [], _, _, _ => rfl
  | x :: A, B, C, h => by rw [crs, crs, cLe_perm x h, crs_perm_right A h]
theorem crs_perm_left {A A' : List Int} (h : A.Perm A') (B : List Int) : crs A B = crs A' B := by
  induction h with
  | nil => rfl
  | cons y _ ih => rw [crs, crs, ih]
  | swap y z r => simp only [crs]; omega
  | trans _ _ h1 h2 => exact h1.trans h2
theorem crs_cons_right : ∀ (A : List Int) (y : Int) (B : List Int), crs A (y :: B) = cGe y A + crs A B
  | [], y, B => by rw [crs, crs, cGe]; rfl
  | x :: A, y, B => by rw [crs, crs, cGe, cLe, crs_cons_right A y B]; omega
theorem crs_nil_right : ∀ A : List Int, crs A [] = 0
  | [] => rfl
  | x :: A => by rw [crs, cLe, crs_nil_right A]; rfl
theorem invC_append : ∀ A B, invC (A ++ B) = invC A + invC B + crs A B
  | [], B => by rw [List.nil_append, invC, crs]; omega
  | x :: A, B => by rw [List.cons_append, invC, invC, crs, invC_append A B, cLe_append]; omega
theorem cLe_zero (x : Int) : ∀ B : List Int, (∀ y ∈ B, x < y) → cLe x B = 0
  | [], _ => rfl
  | y :: B, h => by
    rw [cLe, cLe_zero x B fun z hz => h z (List.mem_cons_of_mem _ hz), if_neg (by have := h y (List.mem_cons_self ..); omega)]; rfl
theorem cGe_all (y : Int) : ∀ A : List Int, (∀ x ∈ A, y ≤ x) → cGe y A = A.length
  | [], _ => rfl
  | x :: A, h => by
    rw [cGe, cGe_all y A fun z hz => h z (List.mem_cons_of_mem _ hz), if_pos (h x (List.mem_cons_self ..)), List.length_cons]; omega
theorem mergeC_spec : ∀ (n : Nat) (A B : List Int), A.length + B.length ≤ n → A.Pairwise (· ≤ ·) → B.Pairwise (· ≤ ·) → (mergeC A B).1.Perm (A ++ B) ∧ (mergeC A B).1.Pairwise (· ≤ ·) ∧ (mergeC A B).2 = crs A B
  | _, [], B, _, _, hB => by rw [mergeC_nil]; exact ⟨List.Perm.refl _, hB, rfl⟩
  | _, x :: A, [], _, hA, _ => by rw [mergeC_nil', List.append_nil]; exact ⟨List.Perm.refl _, hA, (crs_nil_right _).symm⟩
  | 0, x :: A, y :: B, h, _, _ => by simp at h
  | n + 1, x :: A, y :: B, h, hA, hB => by
    rw [mergeC_cons]
    simp only [List.length_cons] at h
    rw [List.pairwise_cons] at hA hB
    split
    · rename_i hlt
      obtain ⟨h1, h2, h3⟩ := mergeC_spec n A (y :: B) (by simp only [List.length_cons]; omega) hA.2 (List.pairwise_cons.2 hB)
      refine ⟨h1.cons x, List.pairwise_cons.2 ⟨fun z hz => ?_, h2⟩, ?_⟩
      · rcases List.mem_append.1 (h1.mem_iff.1 hz) with h | h
        · exact hA.1 z h
        · rcases List.mem_cons.1 h with e | h
          · omega
          · have := hB.1 z h; omega
      · show (mergeC A (y :: B)).2 = _
        rw [h3, crs, cLe_zero x (y :: B)]
        · omega
        · intro z hz
          rcases List.mem_cons.1 hz with e | hz
          · omega
          · have := hB.1 z hz; omega
    · rename_i hge
      obtain ⟨h1, h2, h3⟩ := mergeC_spec n (x :: A) B (by simp only [List.length_cons]; omega) (List.pairwise_cons.2 hA) hB.2
      refine ⟨(h1.cons y).trans List.perm_middle.symm, List.pairwise_cons.2 ⟨fun z hz => ?_, h2⟩, ?_⟩
      · rcases List.mem_append.1 (h1.mem_iff.1 hz) with h | h
        · rcases List.mem_cons.1 h with e | h
          · omega
          · have := hA.1 z h; omega
        · exact hB.1 z h
      · show (mergeC (x :: A) B).2 + ((x :: A).length : Int) = _
        rw [h3, crs_cons_right, cGe_all y (x :: A)]
        · omega
        · intro z hz
          rcases List.mem_cons.1 hz with e | hz
          · omega
          · have := hA.1 z hz; omega
theorem msC_spec : ∀ (n : Nat) (l : List Int), l.length ≤ n → (msC n l).1.Perm l ∧ (msC n l).1.Pairwise (· ≤ ·) ∧ (msC n l).2 = invC l
  | 0, l, h => by
    have : l = [] := List.eq_nil_of_length_eq_zero (by omega)
    subst this
    exact ⟨List.Perm.refl _, .nil, rfl⟩
  | n + 1, l, h => by
    rw [msC]
    split
    · refine ⟨List.Perm.refl _, ?_, ?_⟩
      · match l with
        | [] => exact .nil
        | [x] => exact List.pairwise_singleton _ _
        | _ :: _ :: _ => simp at *; omega
      · match l with
        | [] => rfl
        | [x] => rfl
        | _ :: _ :: _ => simp at *; omega
    · obtain ⟨a1, a2, a3⟩ := msC_spec n (l.take (l.length / 2)) (by rw [List.length_take]; omega)
      obtain ⟨b1, b2, b3⟩ := msC_spec n (l.drop (l.length / 2)) (by rw [List.length_drop]; omega)
      obtain ⟨c1, c2, c3⟩ := mergeC_spec _ _ _ (Nat.le_refl _) a2 b2
      have hta := List.take_append_drop (l.length / 2) l
      refine ⟨c1.trans ((a1.append b1).trans (by rw [hta])), c2, ?_⟩
      show _ + _ + _ = _
      rw [a3, b3, c3, crs_perm_left a1, crs_perm_right _ b1, ← invC_append, hta]
end Go.Sx.T
