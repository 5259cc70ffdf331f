/- Contracts of functions of the program, each proved by running its code symbolically (VK). -/
import Derived.Test.YtejhgipllmjhfaaVJ
namespace Go.Sx.T
open Go Go.Proofs Go.Sx
set_option maxRecDepth 100000
set_option maxHeartbeats 4000000
set_option linter.unusedVariables false
set_option linter.unusedSimpArgs false
/-! Strictly rising lists of numbers. -/
theorem rise_eq {a b : List Int} (ha : a.Pairwise (· < ·)) (hb : b.Pairwise (· < ·)) (h : ∀ x, x ∈ a ↔ x ∈ b) : a = b := by
  induction a generalizing b with
  | nil =>
    cases b with
    | nil => rfl
    | cons y r => exact absurd ((h y).2 (by simp)) (by simp)
  | cons x a ih =>
    cases b with
    | nil => exact absurd ((h x).1 (by simp)) (by simp)
    | cons y b =>
      rw [List.pairwise_cons] at ha hb
      have hxy : x = y := by
        rcases List.mem_cons.1 ((h x).1 (by simp)) with e | hx
        · exact e
        · rcases List.mem_cons.1 ((h y).2 (by simp)) with e | hy
          · exact e.symm
          · have h1 := hb.1 x hx
            have h2 := ha.1 y hy
            omega
      subst hxy
      rw [ih ha.2 hb.2 fun z => ?_]
      constructor
      · intro hz
        rcases List.mem_cons.1 ((h z).1 (List.mem_cons_of_mem _ hz)) with e | hz'
        · have := ha.1 z hz; omega
        · exact hz'
      · intro hz
        rcases List.mem_cons.1 ((h z).2 (List.mem_cons_of_mem _ hz)) with e | hz'
        · have := hb.1 z hz; omega
        · exact hz'
theorem cmpP_spec (l : List Int) (hs : l.Pairwise (· ≤ ·)) : ∀ m, m ≤ l.length → (cmpP l m).Pairwise (· < ·) ∧ (∀ x, x ∈ cmpP l m ↔ x ∈ l.take m) ∧ (0 < m → l.getD (m - 1) 0 ∈ cmpP l m ∧ ∀ x ∈ cmpP l m, x ≤ l.getD (m - 1) 0)
  | 0, _ => by simp [cmpP]
  | m + 1, h => by
    obtain ⟨h1, h2, h3⟩ := cmpP_spec l hs m (by omega)
    have hm : l.getD m 0 = l[m] := getD_of_lt l m (by omega)
    have htk : ∀ x, x ∈ l.take (m + 1) ↔ x ∈ l.take m ∨ x = l.getD m 0 := fun x => by
      rw [List.take_succ_eq_append_getElem (by omega), List.mem_append, List.mem_singleton, hm]
    have hle : 0 < m → l.getD (m - 1) 0 ≤ l.getD m 0 := fun h0 => by
      rw [hm, getD_of_lt l (m - 1) (by omega)]
      exact List.pairwise_iff_getElem.1 hs (m - 1) m (by omega) (by omega) (by omega)
    rw [cmpP]
    by_cases hc : m = 0 ∨ l.getD m 0 ≠ l.getD (m - 1) 0
    · rw [if_pos hc]
      have hlt : ∀ x ∈ cmpP l m, x < l.getD m 0 := fun x hx => by
        have h0 : 0 < m := by
          rcases Nat.eq_zero_or_pos m with e | e
          · subst e; simp [cmpP] at hx
          · exact e
        have := (h3 h0).2 x hx
        have := hle h0
        rcases hc with e | e
        · omega
        · omega
      refine ⟨?_, fun x => ?_, fun _ => ⟨?_, fun x hx => ?_⟩⟩
      · rw [List.pairwise_append]
        exact ⟨h1, by simp, fun x hx y hy => by simp at hy; subst hy; exact hlt x hx⟩
      · rw [List.mem_append, List.mem_singleton, h2, htk]
      · simp
      · rw [Nat.add_sub_cancel]
        rcases List.mem_append.1 hx with hx | hx
        · have := hlt x hx; omega
        · rw [List.mem_singleton] at hx; omega
    · rw [if_neg hc]
      have h0 : 0 < m := by omega
      have he : l.getD m 0 = l.getD (m - 1) 0 := Classical.byContradiction fun e => hc (.inr e)
      refine ⟨h1, fun x => ?_, fun _ => ?_⟩
      · rw [h2, htk]
        constructor
        · exact .inl
        · rintro (hx | hx)
          · exact hx
          · rw [hx, he]; exact (h2 _).1 (h3 h0).1
      · rw [Nat.add_sub_cancel, he]; exact h3 h0
def atI (l : List Int) (u : Int) : Nat := (l.takeWhile fun c => decide (c < u)).length
theorem atI_le (l : List Int) (u : Int) : atI l u ≤ l.length := (List.takeWhile_prefix _).length_le
theorem atI_below (l : List Int) (u : Int) : ∀ j, j < atI l u → l.getD j 0 < u := by
  intro j hj
  unfold atI at hj
  have hp := List.takeWhile_prefix (p := fun c : Int => decide (c < u)) (l := l)
  have h1 : (l.takeWhile fun c => decide (c < u)).getD j 0 = l.getD j 0 := by
    rw [List.prefix_iff_eq_take.1 hp, getD_take _ _ _ hj]
  rw [← h1]
  have h3 := List.all_eq_true.1 (List.all_takeWhile (p := fun c : Int => decide (c < u)) (l := l)) _ (getD_mem _ 0 j hj)
  simpa using h3
theorem atI_stop (l : List Int) (u : Int) (h : atI l u < l.length) : u ≤ l.getD (atI l u) 0 := by
  unfold atI at h ⊢
  have : (l.takeWhile fun c => decide (c < u)) ++ (l.dropWhile fun c => decide (c < u)) = l := List.takeWhile_append_dropWhile
  rcases hd : l.dropWhile (fun c => decide (c < u)) with _ | ⟨x, r⟩
  · rw [hd, List.append_nil] at this
    rw [this] at h
    omega
  · have hx : ¬ (x < u) := by
      have h0 : l.dropWhile (fun c => decide (c < u)) ≠ [] := by rw [hd]; simp
      have h1 := List.head_dropWhile_not (fun c : Int => decide (c < u)) h0
      simp only [hd, List.head_cons] at h1
      simpa using h1
    have e : l.getD (l.takeWhile fun c => decide (c < u)).length 0 = x := by
      rw [hd] at this
      generalize l.takeWhile (fun c => decide (c < u)) = a at this
      rw [← this, getD_append_right _ _ _ (Nat.le_refl _), Nat.sub_self]
      rfl
    rw [e]; omega
/-- A number, into a rising list. -/
def insU (l : List Int) (u : Int) : List Int := if (decide ((atI l u : Int) < l.length) && decide (l.getD (atI l u) 0 = u)) = true then l else l.insertIdx (atI l u) u
theorem insIdx_split {α : Type} (x : α) : ∀ (l : List α) (n : Nat), n ≤ l.length → l.insertIdx n x = l.take n ++ x :: l.drop n
  | l, 0, _ => by simp
  | [], n + 1, h => by simp at h
  | y :: r, n + 1, h => by
    rw [List.insertIdx_succ_cons, insIdx_split x r n (by simpa using h)]
    rfl
theorem insU_split (l : List Int) (u : Int) : l.insertIdx (atI l u) u = l.take (atI l u) ++ u :: l.drop (atI l u) := by
  exact insIdx_split _ _ _ (atI_le l u)
theorem insU_mem {l : List Int} (u : Int) (x : Int) : x ∈ insU l u ↔ x ∈ l ∨ x = u := by
  unfold insU
  split
  · rename_i h
    simp only [Bool.and_eq_true, decide_eq_true_eq] at h
    have := getD_mem l 0 (atI l u) (by omega)
    rw [h.2] at this
    exact ⟨.inl, fun h => h.elim id fun e => e ▸ this⟩
  · rw [insU_split, List.mem_append, List.mem_cons]
    have := List.mem_append (a := x) (s := l.take (atI l u)) (t := l.drop (atI l u))
    rw [List.take_append_drop] at this
    rw [this]
    constructor
    · rintro (h | h | h)
      · exact .inl (.inl h)
      · exact .inr h
      · exact .inl (.inr h)
    · rintro ((h | h) | h)
      · exact .inl h
      · exact .inr (.inr h)
      · exact .inr (.inl h)
theorem insU_rise {l : List Int} (h : l.Pairwise (· < ·)) (u : Int) : (insU l u).Pairwise (· < ·) := by
  unfold insU
  split
  · exact h
  · rename_i hn
    simp only [Bool.and_eq_true, decide_eq_true_eq, not_and] at hn
    have hlow : ∀ x ∈ l.take (atI l u), x < u := fun x hx => by
      obtain ⟨i, hi, e⟩ := List.mem_iff_getElem.1 hx
      rw [List.length_take] at hi
      have := atI_below l u i (by omega)
      rw [getD_of_lt l i (by omega)] at this
      rw [← e, List.getElem_take]
      exact this
    have hhigh : ∀ x ∈ l.drop (atI l u), u < x := fun x hx => by
      obtain ⟨i, hi, e⟩ := List.mem_iff_getElem.1 hx
      rw [List.length_drop] at hi
      have h1 := atI_stop l u (by omega)
      have h2 := hn (by omega)
      rw [← e, List.getElem_drop]
      have h3 : l.getD (atI l u) 0 ≤ l[atI l u + i] := by
        rw [getD_of_lt l (atI l u) (by omega)]
        rcases Nat.eq_zero_or_pos i with e | e
        · subst e; exact Int.le_refl _
        · exact Int.le_of_lt (List.pairwise_iff_getElem.1 h (atI l u) (atI l u + i) (by omega) (by omega) (by omega))
      omega
    rw [insU_split, List.pairwise_append, List.pairwise_cons]
    exact ⟨h.sublist (List.take_sublist _ _), ⟨hhigh, h.sublist (List.drop_sublist _ _)⟩, fun x hx y hy => by
      have := hlow x hx
      rcases List.mem_cons.1 hy with e | hy
      · omega
      · have := hhigh y hy; omega⟩
def foldU (xs : List Int) : List Int := xs.foldl insU []
theorem foldU_snoc (xs : List Int) (x : Int) : foldU (xs ++ [x]) = insU (foldU xs) x := by simp [foldU]
theorem foldU_spec (xs : List Int) : (foldU xs).Pairwise (· < ·) ∧ ∀ x, x ∈ foldU xs ↔ x ∈ xs := by
  refine rev_ind (P := fun xs => (foldU xs).Pairwise (· < ·) ∧ ∀ x, x ∈ foldU xs ↔ x ∈ xs) ⟨by simp [foldU], by simp [foldU]⟩ (fun xs x h => ?_) xs
  rw [foldU_snoc]
  refine ⟨insU_rise h.1 x, fun y => ?_⟩
  rw [insU_mem, h.2, List.mem_append, List.mem_singleton]
theorem compact_eq (xs : List Int) : compactI (isort xs) = foldU xs := by
  obtain ⟨h1, h2, _⟩ := cmpP_spec (isort xs) (isort_sorted xs) (isort xs).length (Nat.le_refl _)
  obtain ⟨h3, h4⟩ := foldU_spec xs
  refine rise_eq h1 h3 fun x => ?_
  show x ∈ cmpP (isort xs) (isort xs).length ↔ _
  rw [h2, List.take_length, h4, (isort_perm xs).mem_iff]
end Go.Sx.T
