/- Contracts of functions of the program, each proved by running its code symbolically (QK). -/
import Derived.Test.YtepkgkdbnoiieaaQJ
namespace Go.Sx.T
open Go Go.Proofs Go.Sx
set_option maxRecDepth 100000
set_option maxHeartbeats 4000000
set_option linter.unusedVariables false
set_option linter.unusedSimpArgs false
def tooB (n : Int) : Bool := decide (n < 1) || decide (1073741824 < n)
def chkL (l : List Int) : Int := if 256 < l.length then 8 else if l.any tooB = true then 2 else if l.Nodup then 0 else 6
theorem cmpP_len_eq (l : List Int) : ∀ m, m ≤ l.length → (cmpP l m).length = m → ∀ j, 0 < j → j < m → l.getD j 0 ≠ l.getD (j - 1) 0
  | 0, _, _, j, _, h => absurd h (Nat.not_lt_zero _)
  | m + 1, hm, he, j, h0, hj => by
    have hle := cmpP_le l m
    rw [cmpP] at he
    split at he
    · rename_i hc
      rw [List.length_append, List.length_singleton] at he
      rcases Nat.lt_or_ge j m with h | h
      · exact cmpP_len_eq l m (by omega) (by omega) j h0 h
      · have : j = m := by omega
        subst this
        rcases hc with h | h
        · omega
        · exact h
    · omega
theorem isort_lt {l : List Int} (h : l.Nodup) : (isort l).Pairwise (· < ·) := by
  have h1 := isort_sorted l
  have h2 : (isort l).Nodup := (isort_perm l).nodup_iff.2 h
  exact List.Pairwise.imp₂ (fun a b h1 h2 => by omega) h1 h2
theorem compact_len (l : List Int) : ((compactI (isort l)).length < l.length) ↔ ¬ l.Nodup := by
  have hle := cmpP_le (isort l) (isort l).length
  rw [isort_length] at hle
  have hsp := cmpP_spec (isort l) (isort_sorted l) (isort l).length (Nat.le_refl _)
  constructor
  · intro h hn
    have := rise_eq hsp.1 (isort_lt hn) (fun x => by rw [hsp.2.1, List.take_length])
    have e : (compactI (isort l)).length = l.length := by unfold compactI; rw [this, isort_length]
    omega
  · intro hn
    refine Nat.lt_of_not_le fun h => hn ?_
    have e : (cmpP (isort l) (isort l).length).length = (isort l).length := by
      unfold compactI at h; rw [isort_length] at *; omega
    have h1 := cmpP_take (isort l) (isort l).length (Nat.le_refl _) (cmpP_len_eq _ _ (Nat.le_refl _) e)
    rw [List.take_length] at h1
    rw [h1] at hsp
    exact (isort_perm l).nodup_iff.1 (hsp.1.imp fun h => by omega)
theorem chkL_zero {l : List Int} : chkL l = 0 ↔ l.length ≤ 256 ∧ l.any tooB = false ∧ l.Nodup := by
  unfold chkL
  split
  · simp; omega
  · split
    · rename_i h; simp [h]
    · rename_i h h2
      split
      · rename_i h3; simp [h2, h3]; omega
      · rename_i h3; simp [h3]
theorem s44 (n : Int) : Spec Try.prog 44 [.int .i64 n] (.bool (tooB n)) := by
  unfold tooB
  refine spec_of_good mixed Try.func44 F44_ok (by kernel_rfl) ?_
  refine good_run 17 (obs := []) (by kernel_rfl) trivial ?_
  refine good_fin [(decide (n < (1 : Int)) || decide ((1073741824 : Int) < n)) = (decide (n < (1 : Int)) || decide ((1073741824 : Int) < n))] (by kernel_rfl) ⟨rfl, trivial⟩
theorem s45i (l : List Int) (hl : l.length ≤ 100000) : SpecTake Try.prog 45 [] 3 1 l.length (fun i => [.int .i64 ((isort l).getD i 0)]) [] (compactI (isort l)).length (fun i => [.int .i64 ((compactI (isort l)).getD i 0)]) := by
  have := s45 (isort l) (by rw [isort_length]; exact hl)
  rw [isort_length] at this
  exact this
theorem s20 (l : List Int) (hl : l.length ≤ 100000) : Spec Try.prog 20 [ints l] (.int .i64 (chkL l)) := by
  refine spec_of_good mixed Try.func20 F20_ok (by kernel_rfl) ?_
  refine good_run 13 (obs := []) (by kernel_rfl) trivial ?_
  refine good_cond (decide ((256 : Int) < (↑(List.length l) : Int))) (by kernel_rfl) (fun hc1 => ?_) (fun hc1 => ?_)
  · simp only [decide_eq_true_eq] at hc1
    have e : chkL l = 8 := if_pos (by omega)
    rw [e]
    refine good_run 7 (obs := []) (by kernel_rfl) trivial ?_
    refine good_fin [(8 : Int) = (8 : Int)] (by kernel_rfl) ⟨rfl, trivial⟩
  · simp only [decide_eq_false_iff_not] at hc1
    refine good_run 5 (obs := []) (by kernel_rfl) trivial ?_
    refine good_call (c := True) (by kernel_rfl) (fun _ => SVles.refl _) (fun _ => s43 l 44 [] tooB s44) (by kernel_rfl) ?_
    refine good_run 2 (obs := []) (by kernel_rfl) trivial ?_
    refine good_cond (List.any l tooB) (by kernel_rfl) (fun hc2 => ?_) (fun hc2 => ?_)
    · have e : chkL l = 2 := by unfold chkL; rw [if_neg (by omega), if_pos hc2]
      rw [e]
      refine good_run 7 (obs := []) (by kernel_rfl) trivial ?_
      refine good_fin [(2 : Int) = (2 : Int)] (by kernel_rfl) ⟨rfl, trivial⟩
    · have hk := s45i l hl
      refine good_run 5 (obs := []) (by kernel_rfl) trivial ?_
      refine good_call (c := True) (by kernel_rfl) (fun _ => SVles.refl _) (fun _ => s32 (l)) (by kernel_rfl) ?_
      refine good_own (c := True) (by kernel_rfl) (by kernel_rfl) (SVles.refl _) (s31 (l) (by (first | omega | assumption | exact ⟨rfl, trivial⟩ | simp only [AllP, inK_iff, roomOK_iff, decide_eq_true_eq, Bool.and_eq_true, Bool.or_eq_true, Bool.not_eq_true', decide_eq_false_iff_not, and_true, true_and]; (first | omega | (and_intros <;> intros <;> (try and_intros) <;> first | omega | assumption | exact trivial))))) ?_
      refine good_take (by kernel_rfl) (SVles.refl _) (SVles.refl _) (hk) ?_
      refine good_run 6 (obs := []) (by kernel_rfl) trivial ?_
      refine good_cond (decide ((↑(List.length (compactI (isort l))) : Int) < (↑(List.length l) : Int))) (by kernel_rfl) (fun hc3 => ?_) (fun hc3 => ?_)
      · have e : chkL l = 6 := by
          unfold chkL
          rw [if_neg (by omega), if_neg (by rw [hc2]; decide), if_neg]
          exact (compact_len l).1 (by simp only [decide_eq_true_eq] at hc3; omega)
        rw [e]
        refine good_run 7 (obs := []) (by kernel_rfl) trivial ?_
        refine good_fin [(6 : Int) = (6 : Int)] (by kernel_rfl) ⟨rfl, trivial⟩
      · have e : chkL l = 0 := by
          unfold chkL
          rw [if_neg (by omega), if_neg (by rw [hc2]; decide), if_pos]
          exact Classical.byContradiction fun h => by
            have := (compact_len l).2 h
            simp only [decide_eq_false_iff_not] at hc3
            omega
        rw [e]
        refine good_run 7 (obs := []) (by kernel_rfl) trivial ?_
        refine good_fin [(0 : Int) = (0 : Int)] (by kernel_rfl) ⟨rfl, trivial⟩
theorem nodup_at {l : List Int} : l.Nodup ↔ ∀ i k, i < l.length → k < i → l.getD k 0 ≠ l.getD i 0 := by
  unfold List.Nodup
  rw [List.pairwise_iff_getElem]
  constructor
  · intro h i k hi hk
    have := h k i (by omega) hi hk
    rwa [getD_of_lt l k (by omega), getD_of_lt l i hi]
  · intro h i j hi hj hij
    have := h j i hj hij
    rwa [getD_of_lt l j hj, getD_of_lt l i hi] at this
end Go.Sx.T
