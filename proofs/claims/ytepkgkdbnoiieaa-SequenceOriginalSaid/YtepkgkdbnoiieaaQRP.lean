/- Contracts of functions of the program, each proved by running its code symbolically (QRP). -/
import Derived.Test.YtepkgkdbnoiieaaQU
namespace Go.Sx.T
open Go Go.Proofs Go.Sx
set_option maxRecDepth 100000
set_option maxHeartbeats 4000000
set_option linter.unusedVariables false
set_option linter.unusedSimpArgs false
/-! Restoring: the least number with a property; the moves. -/
def minS (p : Int → Bool) (b x : Int) : Int := if p x = true ∧ (b = 0 ∨ x < b) then x else b
def minF (p : Int → Bool) (L : List Int) : Int := L.foldl (minS p) 0
theorem minFold (p : Int → Bool) : ∀ (L : List Int) (b : Int), 0 ≤ b → (∀ x ∈ L, 0 < x) →
    let r := L.foldl (minS p) b
    0 ≤ r ∧ (r = b ∨ (r ∈ L ∧ p r = true)) ∧ (b ≠ 0 → r ≠ 0 ∧ r ≤ b) ∧ (∀ y ∈ L, p y = true → r ≠ 0 ∧ r ≤ y)
  | [], b, hb, _ => ⟨hb, .inl rfl, fun h => ⟨h, Int.le_refl _⟩, by simp⟩
  | x :: L, b, hb, hp => by
    have hx := hp x (List.mem_cons_self ..)
    have hb' : 0 ≤ minS p b x := by unfold minS; split <;> omega
    obtain ⟨h1, h2, h3, h4⟩ := minFold p L (minS p b x) hb' fun y hy => hp y (List.mem_cons_of_mem _ hy)
    have e : (x :: L).foldl (minS p) b = L.foldl (minS p) (minS p b x) := rfl
    rw [e]
    generalize L.foldl (minS p) (minS p b x) = r at *
    refine ⟨h1, ?_, ?_, ?_⟩
    · rcases h2 with h | h
      · unfold minS at h
        split at h
        · rename_i hc
          right; rw [h]; exact ⟨List.mem_cons_self .., hc.1⟩
        · exact .inl h
      · exact .inr ⟨List.mem_cons_of_mem _ h.1, h.2⟩
    · intro hb0
      have : minS p b x ≠ 0 ∧ minS p b x ≤ b := by
        unfold minS
        split
        · rename_i hc; constructor
          · omega
          · rcases hc.2 with h | h
            · exact absurd h hb0
            · omega
        · exact ⟨hb0, Int.le_refl _⟩
      have h5 := h3 this.1
      exact ⟨h5.1, by omega⟩
    · intro y hy hpy
      rcases List.mem_cons.1 hy with e' | hy
      · subst e'
        have : minS p b y ≠ 0 ∧ minS p b y ≤ y := by
          unfold minS
          split
          · exact ⟨by omega, Int.le_refl _⟩
          · rename_i hc
            have : ¬ (b = 0 ∨ y < b) := fun h => hc ⟨hpy, h⟩
            omega
        have h5 := h3 this.1
        exact ⟨h5.1, by omega⟩
      · exact h4 y hy hpy
theorem minF_is {p : Int → Bool} {L : List Int} (hp : ∀ x ∈ L, 0 < x) {m : Int} (hm : m ∈ L) (hpm : p m = true) (hl : ∀ y ∈ L, p y = true → m ≤ y) : minF p L = m := by
  obtain ⟨h1, h2, h3, h4⟩ := minFold p L 0 (Int.le_refl _) hp
  have h5 := h4 m hm hpm
  unfold minF
  rcases h2 with h | h
  · exact absurd h h5.1
  · have := hl _ h.1 h.2
    omega
theorem minF_none {p : Int → Bool} {L : List Int} (hp : ∀ x ∈ L, 0 < x) (hn : ∀ y ∈ L, p y = false) : minF p L = 0 := by
  obtain ⟨h1, h2, h3, h4⟩ := minFold p L 0 (Int.le_refl _) hp
  unfold minF
  rcases h2 with h | h
  · exact h
  · rw [hn _ h.1] at h; exact absurd h.2 (by decide)
def befR (s : List Int) (n : Int) : Int := minF (fun x => decide (n < x)) s
/-- The moves by which the numbers that are not settled come to their places. -/
def outG (p : List Int) : List Int → List Int → List Shift
  | _, [] => []
  | d, u :: r => ⟨u, befR (p ++ d) u⟩ :: outG p (d ++ [u]) r
theorem outG_snoc (p : List Int) : ∀ (us d : List Int) (u : Int), outG p d (us ++ [u]) = outG p d us ++ [⟨u, befR (p ++ (d ++ us)) u⟩]
  | [], d, u => by simp [outG]
  | v :: us, d, u => by
    rw [List.cons_append, outG, outG, outG_snoc p us (d ++ [v]) u, List.cons_append, List.append_assoc]; rfl
theorem outG_len (p : List Int) : ∀ (us d : List Int), (outG p d us).length = us.length
  | [], _ => rfl
  | _ :: us, d => by rw [outG, List.length_cons, outG_len p us, List.length_cons]
theorem mem_getD {l : List Int} {x : Int} (h : x ∈ l) : ∃ i, i < l.length ∧ l.getD i 0 = x := by
  obtain ⟨i, hi, e⟩ := List.mem_iff_getElem.1 h
  exact ⟨i, hi, by rw [getD_of_lt l i hi]; exact e⟩
theorem rise_at {l : List Int} (h : l.Pairwise (· < ·)) {i j : Nat} (hij : i < j) (hj : j < l.length) : l.getD i 0 < l.getD j 0 := by
  rw [getD_of_lt l i (by omega), getD_of_lt l j hj]
  exact List.pairwise_iff_getElem.1 h i j (by omega) hj hij
theorem has_iff {q : RSt} (h : q.stays.Pairwise (· < ·)) (n : Int) : q.has n = true ↔ n ∈ q.stays := by
  unfold RSt.has
  simp only [Bool.and_eq_true, decide_eq_true_eq]
  constructor
  · rintro ⟨h1, h2⟩
    rw [← h2]; exact getD_mem _ _ _ (by omega)
  · intro hm
    obtain ⟨j, hj, e⟩ := mem_getD hm
    have h1 : atI q.stays n ≤ j := Nat.le_of_not_lt fun hlt => by
      have := atI_below q.stays n j hlt
      omega
    have h2 := atI_stop q.stays n (by omega)
    refine ⟨by omega, ?_⟩
    by_cases e2 : atI q.stays n = j
    · rw [e2]; exact e
    · have := rise_at h (show atI q.stays n < j by omega) hj
      omega
theorem befS_eq {s S : List Int} (hs : s.Pairwise (· < ·)) (hm : ∀ x, x ∈ S ↔ x ∈ s) (hp : ∀ x ∈ S, 0 < x) {n : Int} (hn : n ∉ s) : befS s n = befR S n := by
  unfold befS befR
  by_cases h : atI s n < s.length
  · rw [if_pos h]
    have h1 := atI_stop s n h
    have h2 := getD_mem s 0 (atI s n) h
    have h3 : n ≠ s.getD (atI s n) 0 := fun e => hn (by rw [e]; exact h2)
    refine (minF_is hp ((hm _).2 h2) (by simp only [decide_eq_true_eq]; omega) fun y hy hny => ?_).symm
    simp only [decide_eq_true_eq] at hny
    obtain ⟨j, hj, e⟩ := mem_getD ((hm y).1 hy)
    have h4 : atI s n ≤ j := Nat.le_of_not_lt fun hlt => by
      have := atI_below s n j hlt
      omega
    by_cases e2 : atI s n = j
    · rw [e2, e]; exact Int.le_refl _
    · have := rise_at hs (show atI s n < j by omega) hj
      omega
  · rw [if_neg h]
    refine (minF_none hp fun y hy => ?_).symm
    simp only [decide_eq_false_iff_not]
    obtain ⟨j, hj, e⟩ := mem_getD ((hm y).1 hy)
    have := atI_below s n j (by omega)
    omega
def unset (p s : List Int) : List Int := s.filter fun x => !decide (x ∈ p)
theorem unset_take (p s : List Int) (k : Nat) (h : k < s.length) : unset p (s.take (k + 1)) = unset p (s.take k) ++ if s.getD k 0 ∈ p then [] else [s.getD k 0] := by
  unfold unset
  rw [take_snoc s k h, List.filter_append]
  congr 1
  by_cases e : s.getD k 0 ∈ p <;> simp [e, List.filter_cons]
theorem restK_eq {p s : List Int} (hp : p.Pairwise (· < ·)) (hs : s.Pairwise (· < ·)) (h0 : ∀ x ∈ s, 0 < x) (h1 : ∀ x ∈ p, 0 < x) : ∀ k, k ≤ s.length → (∀ x, x ∈ (restK p s k).stays ↔ x ∈ p ++ unset p (s.take k)) ∧ (restK p s k).out = outG p [] (unset p (s.take k))
  | 0, _ => by simp [restK, unset, outG]
  | k + 1, h => by
    obtain ⟨i1, i2⟩ := restK_eq hp hs h0 h1 k (by omega)
    have hr := (restK_rise hp s k).1
    have hx := h0 _ (getD_mem s 0 k h)
    have hu := unset_take p s k h
    rw [restK, stepR]
    by_cases hm : s.getD k 0 ∈ p
    · rw [if_pos hm, List.append_nil] at hu
      rw [if_pos ((has_iff hr _).2 ((i1 _).2 (List.mem_append_left _ hm))), hu]
      exact ⟨i1, i2⟩
    · rw [if_neg hm] at hu
      have hns : s.getD k 0 ∉ (restK p s k).stays := by
        rw [i1]
        intro h'
        rcases List.mem_append.1 h' with h' | h'
        · exact hm h'
        · obtain ⟨j, hj, e⟩ := mem_getD (List.mem_filter.1 h').1
          rw [List.length_take] at hj
          rw [getD_take _ _ _ (by omega)] at e
          have := rise_at hs (show j < k by omega) h
          omega
      have hb := befS_eq (S := p ++ unset p (s.take k)) hr (fun x => (i1 x).symm) (fun x hx' => by
        rcases List.mem_append.1 hx' with h' | h'
        · exact h1 x h'
        · exact h0 x (List.mem_of_mem_take (List.mem_filter.1 h').1)) hns
      rw [if_neg (fun h' => hns ((has_iff hr _).1 h')), hu]
      refine ⟨fun x => ?_, ?_⟩
      · rw [List.mem_insertIdx (atI_le _ _), i1, ← List.append_assoc, List.mem_append (t := [s.getD k 0]), List.mem_singleton]
        exact Or.comm
      · rw [i2, outG_snoc, hb]; rfl
/-- The moves of Restore. -/
theorem rest_all {l : List Int} (hc : chkL l = 0) : (restK (lis 0 l) (isort l) l.length).out = outG (lis 0 l) [] (unset (lis 0 l) (isort l)) := by
  obtain ⟨h1, h2, h3, h4⟩ := chk_pos hc
  have := (restK_eq (lis_rise l 0) (isort_lt h2) (fun x hx => by have := h4 x ((isort_perm l).mem_iff.1 hx); omega) (fun x hx => by have := h4 x ((lis_sub l 0).subset hx); omega) (isort l).length (Nat.le_refl _)).2
  rw [List.take_length] at this
  rw [isort_length] at this
  exact this
theorem unset_perm {l : List Int} (hn : l.Nodup) : (lis 0 l ++ unset (lis 0 l) (isort l)).Perm l := by
  refine (List.Perm.append_right _ ?_).trans ((List.filter_append_perm (fun x => decide (x ∈ lis 0 l)) (isort l)).trans (isort_perm l))
  have hs : (lis 0 l).Nodup := hn.sublist (lis_sub l 0)
  refine (List.perm_ext_iff_of_nodup hs (((isort_perm l).nodup_iff.2 hn).sublist List.filter_sublist)).2 fun x => ?_
  rw [List.mem_filter, decide_eq_true_eq, (isort_perm l).mem_iff]
  exact ⟨fun h => ⟨(lis_sub l 0).subset h, h⟩, fun h => h.2⟩
end Go.Sx.T
