/- Contracts of functions of the program, each proved by running its code symbolically (QE). -/
import Derived.Test.YtepkgkdbnoiieaaQD
namespace Go.Sx.T
open Go Go.Proofs Go.Sx
set_option maxRecDepth 100000
set_option maxHeartbeats 4000000
set_option linter.unusedVariables false
set_option linter.unusedSimpArgs false
/-- Two rows are merged, and the pairs are counted that stand in the wrong order. -/
def mergeC : List Int → List Int → List Int × Int
  | [], b => (b, 0)
  | x :: a, [] => (x :: a, 0)
  | x :: a, y :: b => if x < y then (x :: (mergeC a (y :: b)).1, (mergeC a (y :: b)).2) else (y :: (mergeC (x :: a) b).1, (mergeC (x :: a) b).2 + ((x :: a).length : Int))
termination_by a b => a.length + b.length
def msC : Nat → List Int → List Int × Int
  | 0, l => (l, 0)
  | n + 1, l => if l.length < 2 then (l, 0) else ((mergeC (msC n (l.take (l.length / 2))).1 (msC n (l.drop (l.length / 2))).1).1, (msC n (l.take (l.length / 2))).2 + (msC n (l.drop (l.length / 2))).2 + (mergeC (msC n (l.take (l.length / 2))).1 (msC n (l.drop (l.length / 2))).1).2)
theorem mergeC_nil (b : List Int) : mergeC [] b = (b, 0) := by rw [mergeC]
theorem mergeC_nil' (a : List Int) : mergeC a [] = (a, 0) := by cases a <;> rw [mergeC]
theorem mergeC_cons (x : Int) (a : List Int) (y : Int) (b : List Int) : mergeC (x :: a) (y :: b) = if x < y then (x :: (mergeC a (y :: b)).1, (mergeC a (y :: b)).2) else (y :: (mergeC (x :: a) b).1, (mergeC (x :: a) b).2 + ((x :: a).length : Int)) := by rw [mergeC]
theorem mergeC_len : ∀ (n : Nat) (a b : List Int), a.length + b.length ≤ n → (mergeC a b).1.length = a.length + b.length ∧ 0 ≤ (mergeC a b).2 ∧ (mergeC a b).2 ≤ (a.length : Int) * b.length
  | _, [], b, _ => by rw [mergeC_nil]; simp
  | _, x :: a, [], _ => by rw [mergeC_nil']; simp
  | 0, x :: a, y :: b, h => by simp at h
  | n + 1, x :: a, y :: b, h => by
    rw [mergeC_cons]
    simp only [List.length_cons] at h
    split
    · obtain ⟨h1, h2, h3⟩ := mergeC_len n a (y :: b) (by simp only [List.length_cons]; omega)
      refine ⟨by simp only [List.length_cons] at h1 ⊢; omega, h2, Int.le_trans h3 ?_⟩
      refine Int.mul_le_mul_of_nonneg_right ?_ (by omega)
      simp only [List.length_cons]; omega
    · obtain ⟨h1, h2, h3⟩ := mergeC_len n (x :: a) b (by simp only [List.length_cons]; omega)
      refine ⟨by simp only [List.length_cons] at h1 ⊢; omega, by omega, ?_⟩
      have e : ((x :: a).length : Int) * ((y :: b).length : Nat) = ((x :: a).length : Int) * (b.length : Nat) + ((x :: a).length : Int) := by
        rw [List.length_cons (a := y), Int.natCast_add, Int.mul_add]; simp
      rw [e]
      show (mergeC (x :: a) b).2 + _ ≤ _
      omega
theorem msC_len : ∀ (n : Nat) (l : List Int), (msC n l).1.length = l.length ∧ 0 ≤ (msC n l).2 ∧ (msC n l).2 ≤ (l.length : Int) * l.length
  | 0, l => ⟨rfl, Int.le_refl _, Int.mul_nonneg (by omega) (by omega)⟩
  | n + 1, l => by
    rw [msC]
    split
    · exact ⟨rfl, Int.le_refl _, Int.mul_nonneg (by omega) (by omega)⟩
    · obtain ⟨a1, a2, a3⟩ := msC_len n (l.take (l.length / 2))
      obtain ⟨b1, b2, b3⟩ := msC_len n (l.drop (l.length / 2))
      obtain ⟨c1, c2, c3⟩ := mergeC_len _ (msC n (l.take (l.length / 2))).1 (msC n (l.drop (l.length / 2))).1 (Nat.le_refl _)
      rw [a1, b1] at c1 c3
      simp only [List.length_take, List.length_drop] at *
      rw [Nat.min_eq_left (by omega)] at *
      have hl : l.length = l.length / 2 + (l.length - l.length / 2) := by omega
      generalize l.length / 2 = p at *
      generalize l.length - p = q at *
      rw [hl]
      refine ⟨c1, by show 0 ≤ _ + _ + _; omega, ?_⟩
      show _ + _ + _ ≤ _
      have e : ((p + q : Nat) : Int) * ((p + q : Nat) : Int) = (p : Int) * p + (q : Int) * q + ((p : Int) * q + (p : Int) * q) := by
        rw [Int.natCast_add, Int.add_mul, Int.mul_add, Int.mul_add, Int.mul_comm (q : Int) p]; omega
      have h0 : 0 ≤ (p : Int) * q := Int.mul_nonneg (by omega) (by omega)
      rw [e]
      omega
end Go.Sx.T
