/- Contracts of functions of the program, each proved by running its code symbolically (VY). -/
import Derived.Test.YtejhgipllmjhfaaVX
namespace Go.Sx.T
open Go Go.Proofs Go.Sx
set_option maxRecDepth 100000
set_option maxHeartbeats 4000000
set_option linter.unusedVariables false
set_option linter.unusedSimpArgs false
def sumA (l : List Came) (A : List Int) : Nat := (A.map fun a => (ownL l a).length).sum
theorem sumA_cons (c : Came) (r : List Came) : ∀ A : List Int, A.Nodup → sumA (c :: r) A = sumA r A + if c.Acc ∈ A then 1 else 0
  | [], _ => by simp [sumA]
  | a :: A, h => by
    have h' := List.nodup_cons.1 h
    have ih := sumA_cons c r A h'.2
    have e : (ownL (c :: r) a).length = (ownL r a).length + if c.Acc = a then 1 else 0 := by
      unfold ownL
      by_cases e : c.Acc = a
      · rw [if_pos e, List.filter_cons_of_pos (by simpa using e)]; rfl
      · rw [if_neg e, List.filter_cons_of_neg (by simpa using e)]; rfl
    have h1 : sumA (c :: r) (a :: A) = (ownL (c :: r) a).length + sumA (c :: r) A := by simp [sumA]
    have h2 : sumA r (a :: A) = (ownL r a).length + sumA r A := by simp [sumA]
    rw [h1, h2, e, ih]
    by_cases e : c.Acc = a
    · subst e
      rw [if_pos rfl, if_neg h'.1, if_pos (by simp)]; omega
    · rw [if_neg e]
      by_cases h3 : c.Acc ∈ A
      · rw [if_pos h3, if_pos (by simp [h3])]; omega
      · rw [if_neg h3, if_neg (by simp [h3, e])]; omega
theorem sumA_all (A : List Int) (hA : A.Nodup) (h0 : (0 : Int) ∉ A) : ∀ l : List Came, (∀ c ∈ l, c.Acc ≠ 0 → c.Acc ∈ A) → sumA l A + (ownL l 0).length = l.length
  | [], _ => by
    have : sumA [] A = 0 := by
      clear hA h0
      induction A with
      | nil => rfl
      | cons a A ih => simp only [sumA, List.map_cons, List.sum_cons]; exact (by simpa [sumA, ownL] using ih)
    simp [this, ownL]
  | c :: r, h => by
    have ih := sumA_all A hA h0 r fun x hx => h x (by simp [hx])
    rw [sumA_cons c r A hA]
    by_cases e : c.Acc = 0
    · rw [if_neg (by rw [e]; exact h0)]
      have : ownL (c :: r) 0 = c :: ownL r 0 := by unfold ownL; rw [List.filter_cons_of_pos (by simpa using e)]
      rw [this, List.length_cons, List.length_cons]; omega
    · rw [if_pos (h c (by simp) e)]
      have : ownL (c :: r) 0 = ownL r 0 := by unfold ownL; rw [List.filter_cons_of_neg (by simpa using e)]
      rw [this, List.length_cons]; omega
theorem gath_mem {l : List Came} (hR : RightC l) (a : Int) : a ∈ gathC Came.Acc l (l.map Came.Unit) ↔ ∃ c ∈ l, c.Acc ≠ 0 ∧ c.Acc = a := by
  unfold gathC
  rw [List.mem_flatMap]
  constructor
  · rintro ⟨u, hu, h⟩
    obtain ⟨c, hc, rfl⟩ := List.mem_map.1 hu
    rw [pickC, ofC_mem hR.asc hc] at h
    by_cases h0 : c.Acc = 0
    · simp [h0] at h
    · simp [h0] at h
      exact ⟨c, hc, h0, h.symm⟩
  · rintro ⟨c, hc, h0, rfl⟩
    refine ⟨c.Unit, List.mem_map.2 ⟨c, hc, rfl⟩, ?_⟩
    rw [pickC, ofC_mem hR.asc hc]
    simp [h0]
def accsC (l : List Came) : List Int := foldU (gathC Came.Acc l (l.map Came.Unit))
theorem accs_spec {l : List Came} (hR : RightC l) : (accsC l).Nodup ∧ (0 : Int) ∉ accsC l ∧ (∀ c ∈ l, c.Acc ≠ 0 → c.Acc ∈ accsC l) ∧ ∀ a ∈ accsC l, inI a 1 1073741824 = true ∧ ∃ c ∈ l, c.Acc = a := by
  obtain ⟨h1, h2⟩ := foldU_spec (gathC Came.Acc l (l.map Came.Unit))
  refine ⟨h1.imp (fun h => by omega), fun h => ?_, fun c hc h0 => ?_, fun a ha => ?_⟩
  · obtain ⟨c, _, h3, h4⟩ := (gath_mem hR 0).1 ((h2 0).1 h)
    exact h3 h4
  · exact (h2 _).2 ((gath_mem hR _).2 ⟨c, hc, h0, rfl⟩)
  · obtain ⟨c, hc, h3, h4⟩ := (gath_mem hR a).1 ((h2 a).1 ha)
    refine ⟨?_, c, hc, h4⟩
    have hal := hR.alone c hc
    simp only [aloneC, placedC, inI, Bool.and_eq_true, Bool.or_eq_true, decide_eq_true_eq] at hal ⊢
    omega
theorem gather_units {l : List Came} (hR : RightC l) : gatherC Came.Acc l (l.map Came.Unit) = (accsC l, 0) := by
  have := hR.len
  rw [gatherC, if_neg (by simp [(right_iff l).2 hR]), if_neg (by rw [List.length_map]; omega), compact_eq]
  rfl
theorem order_ok {l : List Came} (hR : RightC l) {a : Int} (hia : inI a 1 1073741824 = true) : orderC l a = ((sortN (ownL l a)).map Came.Unit, 0) := by
  rw [orderC, if_neg (by simp [(right_iff l).2 hR]), if_neg (by rw [hia]; decide)]
theorem sumA_succ (l : List Came) (A : List Int) (k : Nat) (h : k < A.length) : sumA l (A.take (k + 1)) = sumA l (A.take k) + (ownL l (A.getD k 0)).length := by
  rw [List.take_succ_eq_append_getElem h, getD_of_lt A k h]
  unfold sumA
  rw [List.map_append, List.sum_append]
  simp only [List.map_cons, List.map_nil, List.sum_cons, List.sum_nil, Nat.add_zero]
end Go.Sx.T
