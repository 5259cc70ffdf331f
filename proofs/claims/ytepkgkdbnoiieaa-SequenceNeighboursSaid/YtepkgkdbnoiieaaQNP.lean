/- Contracts of functions of the program, each proved by running its code symbolically (QNP). -/
import Derived.Test.YtepkgkdbnoiieaaQTP
import Derived.Test.YtepkgkdbnoiieaaQOP
namespace Go.Sx.T
open Go Go.Proofs Go.Sx
set_option maxRecDepth 100000
set_option maxHeartbeats 4000000
set_option linter.unusedVariables false
set_option linter.unusedSimpArgs false
/-! Two neighbours. -/
theorem cLe_nn (x : Int) : ∀ r : List Int, 0 ≤ cLe x r
  | [] => Int.le_refl _
  | y :: r => by
    have := cLe_nn x r
    rw [cLe]; split <;> omega
theorem invC_nn : ∀ r : List Int, 0 ≤ invC r
  | [] => Int.le_refl _
  | y :: r => by
    have := invC_nn r
    have := cLe_nn y r
    rw [invC]; omega
theorem cLe_iff (x : Int) : ∀ r : List Int, cLe x r = 0 ↔ ∀ y ∈ r, x < y
  | [] => by simp [cLe]
  | y :: r => by
    have h1 := cLe_nn x r
    have h2 := cLe_iff x r
    rw [cLe]
    constructor
    · intro h z hz
      split at h
      · omega
      · rcases List.mem_cons.1 hz with e | hz
        · rw [e]; omega
        · exact h2.1 (by omega) z hz
    · intro h
      rw [h2.2 fun z hz => h z (List.mem_cons_of_mem _ hz), if_neg (by have := h y (List.mem_cons_self ..); omega)]; rfl
theorem invC_iff : ∀ l : List Int, invC l = 0 ↔ l.Pairwise (· < ·)
  | [] => by simp [invC]
  | x :: r => by
    have h1 := cLe_nn x r
    have h2 := invC_nn r
    rw [invC, List.pairwise_cons, ← invC_iff r, ← cLe_iff x r]
    omega
theorem lis_full {l : List Int} (h0 : ∀ x ∈ l, 0 < x) : (lis 0 l).length = l.length ↔ l.Pairwise (· < ·) := by
  constructor
  · intro h
    have := (lis_sub l 0).eq_of_length h
    rw [← this]; exact lis_rise l 0
  · intro h
    have h1 := lis_longest (x := 0) (List.Sublist.refl l) h h0
    have h2 := (lis_sub l 0).length_le
    omega
theorem runs_one (l : List Int) : ∀ k, (runsK l k).length ≤ 1 ↔ ∀ j, 0 < j → j < k → ¬ l.getD j 0 < l.getD (j - 1) 0
  | 0 => by simp [runsK]
  | k + 1 => by
    have ih := runs_one l k
    obtain ⟨h1, h2⟩ := runsK_len l k
    rw [runsK]
    split
    · rename_i hc
      rw [List.length_append, List.length_singleton]
      constructor
      · intro h
        have : k = 0 := Classical.byContradiction fun hk => by have := h2 (by omega); omega
        subst this
        intro j h3 h4; omega
      · intro h
        rcases hc with hc | hc
        · subst hc; simp [runsK]
        · exfalso
          by_cases hk : k = 0
          · subst hk; simp at hc
          · exact h k (by omega) (by omega) hc
    · rename_i hc
      rw [List.length_set, ih]
      constructor
      · intro h j h3 h4
        rcases Nat.lt_or_ge j k with h5 | h5
        · exact h j h3 h5
        · have : j = k := by omega
          subst this
          exact fun h6 => hc (.inr h6)
      · intro h j h3 h4
        exact h j h3 (by omega)
theorem adj_pair {l : List Int} (h : ∀ j, 0 < j → j < l.length → l.getD (j - 1) 0 ≤ l.getD j 0) : l.Pairwise (· ≤ ·) := by
  have h2 : ∀ j i, i < j → j < l.length → l.getD i 0 ≤ l.getD j 0 := by
    intro j
    induction j with
    | zero => intro i hi; omega
    | succ j ih =>
      intro i hi hj
      have h3 := h (j + 1) (by omega) hj
      rw [Nat.add_sub_cancel] at h3
      by_cases e : i = j
      · rw [e]; exact h3
      · have := ih i (by omega) (by omega); omega
  rw [List.pairwise_iff_getElem]
  intro i j hi hj hij
  have := h2 j i hij hj
  rwa [getD_of_lt l i hi, getD_of_lt l j hj] at this
theorem runs_iff {l : List Int} (hn : l.Nodup) : (runsK l l.length).length ≤ 1 ↔ l.Pairwise (· < ·) := by
  rw [runs_one]
  constructor
  · intro h
    have h1 := adj_pair (l := l) fun j h3 h4 => by have := h j h3 h4; omega
    exact List.Pairwise.imp₂ (fun a b h1 h2 => by omega) h1 hn
  · intro h j h3 h4 h5
    have := rise_at h (show j - 1 < j by omega) h4
    omega
def sumZ : List Int → Int
  | [] => 0
  | x :: r => x + sumZ r
theorem sumZ_append : ∀ a b, sumZ (a ++ b) = sumZ a + sumZ b
  | [], b => by rw [List.nil_append, sumZ]; omega
  | x :: a, b => by rw [List.cons_append, sumZ, sumZ, sumZ_append a b]; omega
theorem sumZ_set : ∀ (l : List Int) (i : Nat), i < l.length → sumZ (l.set i (l.getD i 0 + 1)) = sumZ l + 1
  | [], i, h => by simp at h
  | x :: r, 0, _ => by rw [List.set_cons_zero, sumZ, sumZ]; show x + 1 + sumZ r = _; omega
  | x :: r, i + 1, h => by
    rw [List.set_cons_succ, sumZ, sumZ]
    have := sumZ_set r i (by simpa using h)
    rw [show (x :: r).getD (i + 1) 0 = r.getD i 0 from rfl, this]; omega
theorem runs_sum (l : List Int) : ∀ k, sumZ (runsK l k) = k
  | 0 => rfl
  | k + 1 => by
    obtain ⟨h1, h2⟩ := runsK_len l k
    rw [runsK]
    split
    · rw [sumZ_append, runs_sum l k]; simp [sumZ]
    · rename_i hc
      have := h2 (by omega)
      rw [sumZ_set _ _ (by omega), runs_sum l k]; omega
/-- Two neighbours change places. -/
def swapL (l : List Int) (i : Nat) : List Int := l.take i ++ l.getD (i + 1) 0 :: l.getD i 0 :: l.drop (i + 2)
theorem swap_split (l : List Int) (i : Nat) (h : i + 1 < l.length) : l = l.take i ++ l.getD i 0 :: l.getD (i + 1) 0 :: l.drop (i + 2) := by
  rw [← drop_getD l (i + 1) h, ← drop_getD l i (by omega), List.take_append_drop]
theorem swap_perm (l : List Int) (i : Nat) (h : i + 1 < l.length) : (swapL l i).Perm l := by
  conv => rhs; rw [swap_split l i h]
  exact List.Perm.append_left _ (List.Perm.swap ..)
theorem swap_at (l : List Int) (i : Nat) (h : i + 1 < l.length) (j : Nat) : (swapL l i).getD j 0 = if j = i then l.getD (i + 1) 0 else if j = i + 1 then l.getD i 0 else l.getD j 0 := by
  have e : (l.take i).length = i := by rw [List.length_take]; omega
  unfold swapL
  rw [getD_append, e]
  split
  · rename_i hj
    rw [if_neg (by omega), if_neg (by omega), getD_take _ _ _ hj]
  · rename_i hj
    by_cases h1 : j = i
    · rw [if_pos h1, h1, Nat.sub_self]; rfl
    · rw [if_neg h1]
      by_cases h2 : j = i + 1
      · rw [if_pos h2, h2, show i + 1 - i = 1 by omega]; rfl
      · rw [if_neg h2, show j - i = (j - i - 2) + 2 by omega]
        show (l.drop (i + 2)).getD (j - i - 2) 0 = _
        rw [getD_drop, show i + 2 + (j - i - 2) = j by omega]
theorem inv_swap (A C : List Int) (x y : Int) : invC (A ++ y :: x :: C) + (if y ≤ x then 1 else 0) = invC (A ++ x :: y :: C) + (if x ≤ y then 1 else 0) := by
  rw [invC_append, invC_append, crs_perm_right A (List.Perm.swap x y C)]
  simp only [invC, cLe]
  omega
theorem dist_swap {l : List Int} (hn : l.Nodup) (i : Nat) (h : i + 1 < l.length) : invC (swapL l i) = if l.getD (i + 1) 0 < l.getD i 0 then invC l - 1 else invC l + 1 := by
  have h1 := inv_swap (l.take i) (l.drop (i + 2)) (l.getD i 0) (l.getD (i + 1) 0)
  rw [← swap_split l i h] at h1
  have hne := nodup_at.1 hn (i + 1) i h (by omega)
  unfold swapL
  split
  · rw [if_pos (by omega), if_neg (by omega)] at h1; omega
  · rw [if_neg (by omega), if_pos (by omega)] at h1; omega
theorem places_self {m : List Int} (hn : m.Nodup) : invC (placesL m m) = 0 := by
  rw [inv_disc hn (List.Perm.refl _)]
  unfold disc
  rw [sumI_congr m (g := fun _ => 0) fun a ha => ?_, sumI_zero]
  rw [sumI_congr m (g := fun _ => 0) fun b hb => ?_, sumI_zero]
  have hs : ∀ {l : List Int}, l.Nodup → ∀ a b, (bef l a b && bef l b a) = false := by
    intro l
    induction l with
    | nil => intro _ a b; rfl
    | cons x r ih =>
      intro hn a b
      have hn' := List.nodup_cons.1 hn
      cases h : (bef (x :: r) a b && bef (x :: r) b a)
      · rfl
      · exfalso
        rw [Bool.and_eq_true, bef, bef] at h
        simp only [Bool.or_eq_true, Bool.and_eq_true, decide_eq_true_eq] at h
        obtain ⟨h1, h2⟩ := h
        rcases h1 with ⟨e, hb⟩ | h1 <;> rcases h2 with ⟨e', ha⟩ | h2
        · rw [e] at ha; exact hn'.1 ha
        · have := (bef_mem h2).2; rw [e] at this; exact hn'.1 this
        · have := (bef_mem h1).2; rw [e'] at this; exact hn'.1 this
        · have := ih hn'.2 a b
          rw [h1, h2] at this; cases this
  rw [hs hn a b]; rfl
theorem bet_swap {l : List Int} (hn : l.Nodup) (i : Nat) (h : i + 1 < l.length) : invC (placesL l (swapL l i)) = 1 := by
  have hp := swap_perm l i h
  have hnm := hp.nodup_iff.2 hn
  have h0 := places_self hnm
  have h1 := inv_swap ((l.take i).map fun n => findI (swapL l i) (eqK n)) ((l.drop (i + 2)).map fun n => findI (swapL l i) (eqK n)) (findI (swapL l i) (eqK (l.getD i 0))) (findI (swapL l i) (eqK (l.getD (i + 1) 0)))
  have e1 : placesL l (swapL l i) = ((l.take i).map fun n => findI (swapL l i) (eqK n)) ++ (findI (swapL l i) (eqK (l.getD i 0))) :: (findI (swapL l i) (eqK (l.getD (i + 1) 0))) :: ((l.drop (i + 2)).map fun n => findI (swapL l i) (eqK n)) := by
    have : placesL l (swapL l i) = placesL (l.take i ++ l.getD i 0 :: l.getD (i + 1) 0 :: l.drop (i + 2)) (swapL l i) := by rw [← swap_split l i h]
    rw [this]
    unfold placesL
    rw [List.map_append, List.map_cons, List.map_cons]
  have e2 : placesL (swapL l i) (swapL l i) = ((l.take i).map fun n => findI (swapL l i) (eqK n)) ++ (findI (swapL l i) (eqK (l.getD (i + 1) 0))) :: (findI (swapL l i) (eqK (l.getD i 0))) :: ((l.drop (i + 2)).map fun n => findI (swapL l i) (eqK n)) := by
    have : placesL (swapL l i) (swapL l i) = placesL (l.take i ++ l.getD (i + 1) 0 :: l.getD i 0 :: l.drop (i + 2)) (swapL l i) := rfl
    rw [this]
    unfold placesL
    rw [List.map_append, List.map_cons, List.map_cons]
  rw [← e1, ← e2, h0] at h1
  have hf : ∀ j, j < l.length → findI (swapL l i) (eqK ((swapL l i).getD j 0)) = j := fun j hj => by
    have hl := hp.length_eq
    refine findI_hit _ _ _ (by omega) ?_ fun k hk => ?_
    · rw [getD_of_lt (d := default) _ j (by omega), getD_of_lt (d := 0) _ j (by omega)]; simp [eqK]
    · rw [getD_of_lt (d := default) _ k (by omega)]
      simp only [eqK, decide_eq_false_iff_not]
      have := nodup_at.1 hnm j k (by omega) hk
      rwa [getD_of_lt (d := 0) _ k (by omega)] at this
  have g1 := hf i (by omega)
  have g2 := hf (i + 1) h
  rw [swap_at l i h i, if_pos rfl] at g1
  rw [swap_at l i h (i + 1), if_neg (by omega), if_pos rfl] at g2
  rw [g1, g2, if_pos (by omega), if_neg (by omega)] at h1
  omega
end Go.Sx.T
