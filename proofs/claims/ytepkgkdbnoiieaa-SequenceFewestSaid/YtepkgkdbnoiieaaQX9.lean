/- Contracts of functions of the program, each proved by running its code symbolically (QX9). -/
import Derived.Test.YtepkgkdbnoiieaaQOP
import Derived.Test.YtepkgkdbnoiieaaQV
namespace Go.Sx.T
open Go Go.Proofs Go.Sx
set_option maxRecDepth 100000
set_option maxHeartbeats 8000000
set_option linter.unusedVariables false
set_option linter.unusedSimpArgs false
theorem adj_pair {l : List Int} (h : ∀ j, 0 < j → j < l.length → l.getD (j - 1) 0 ≤ l.getD j 0) : l.Pairwise (· ≤ ·) := by
  have h2 : ∀ j i, i < j → j < l.length → l.getD i 0 ≤ l.getD j 0 := by
    intro j
    induction j with
    | zero => intro i hi; omega
    | succ j ih =>
      intro i hi hj
      have h3 := h (j + 1) (by omega) hj
      rw [Nat.add_sub_cancel] at h3
      by_cases e : i = j
      · rw [e]; exact h3
      · have := ih i (by omega) (by omega); omega
  rw [List.pairwise_iff_getElem]
  intro i j hi hj hij
  have := h2 j i hij hj
  rwa [getD_of_lt l i hi, getD_of_lt l j hj] at this
theorem s36 (l : List Int) : Spec Try.prog 36 [ints l] (.bool (decide (l.Pairwise (· ≤ ·)))) := by
  refine spec_len 0 rfl (hasBody_of_slim Try.func36 F36_ok) fun hlen => ?_
  refine spec_of_good mixed Try.func36 F36_ok (by kernel_rfl) ?_
  refine good_run 15 (obs := [InK IntKind.i64 ((↑(List.length l) : Int) - (1 : Int))]) (by kernel_rfl) (by (first | omega | assumption | exact ⟨rfl, trivial⟩ | simp only [AllP, inK_iff, roomOK_iff, decide_eq_true_eq, Bool.and_eq_true, Bool.or_eq_true, Bool.not_eq_true', decide_eq_false_iff_not, and_true, true_and]; (first | omega | (and_intros <;> intros <;> (try and_intros) <;> first | omega | assumption | exact trivial)))) ?_
  refine good_loopJ (fun i : Nat => ⟨[(3, .sv (.int .i64 (((i : Int) - 1)))), (0, LV.sv (SV.lst (1 : Nat) (List.length l) fun i => [SV.int IntKind.i64 (List.getD l i (0 : Int))]))], []⟩) (fun i => i ≤ l.length ∧ ∀ j, i ≤ j → 0 < j → j < l.length → l.getD (j - 1) 0 ≤ l.getD j 0) (fun i => i) (l.length) [(↑(List.length l) : Int) - (1 : Int) = (↑(List.length l) : Int) - (1 : Int), List.length l = List.length l ∧ ∀ (i : Nat), i < List.length l → (fun i => [SV.int IntKind.i64 (List.getD l i (0 : Int))]) i = (fun i => [SV.int IntKind.i64 (List.getD l i (0 : Int))]) i] (by kernel_rfl) (by kernel_rfl) ⟨rfl, ⟨rfl, fun _ _ => rfl⟩, trivial⟩ ⟨by omega, by omega⟩ ?_
  all_goals skip
  rintro i ⟨hi, hj⟩
  refine good_run 7 (obs := []) (by kernel_rfl) trivial ?_
  refine good_cond (decide ((0 : Int) < (↑i : Int) - (1 : Int))) (by kernel_rfl) (fun hc1 => ?_) (fun hc1 => ?_)
  · have hi1 : 1 < i := by simp only [decide_eq_true_eq] at hc1; omega
    have e1 : ((i : Int) - 1).toNat = i - 1 := by omega
    have e2 : ((i : Int) - 1 - 1).toNat = i - 1 - 1 := by omega
    refine good_run 14 (obs := [True → (1 : Nat) = (1 : Nat) ∧ (0 : Int) ≤ (↑i : Int) - (1 : Int) ∧ (↑i : Int) - (1 : Int) < (↑(List.length l) : Int), True → InK IntKind.i64 ((↑i : Int) - (1 : Int) - (1 : Int)), True → (1 : Nat) = (1 : Nat) ∧ (0 : Int) ≤ (↑i : Int) - (1 : Int) - (1 : Int) ∧ (↑i : Int) - (1 : Int) - (1 : Int) < (↑(List.length l) : Int)]) (by kernel_rfl) (by (first | omega | assumption | exact ⟨rfl, trivial⟩ | simp only [AllP, inK_iff, roomOK_iff, decide_eq_true_eq, Bool.and_eq_true, Bool.or_eq_true, Bool.not_eq_true', decide_eq_false_iff_not, and_true, true_and]; (first | omega | (and_intros <;> intros <;> (try and_intros) <;> first | omega | assumption | exact trivial)))) ?_
    refine good_call (c := True) (by kernel_rfl) (fun _ => SVles.refl _) (fun _ => s56 (List.getD l (Int.toNat ((↑i : Int) - (1 : Int))) (0 : Int)) (List.getD l (Int.toNat ((↑i : Int) - (1 : Int) - (1 : Int))) (0 : Int))) (by kernel_rfl) ?_
    refine good_run 2 (obs := []) (by kernel_rfl) trivial ?_
    refine good_cond (decide (List.getD l (Int.toNat ((↑i : Int) - (1 : Int))) (0 : Int) < List.getD l (Int.toNat ((↑i : Int) - (1 : Int) - (1 : Int))) (0 : Int))) (by kernel_rfl) (fun hc2 => ?_) (fun hc2 => ?_)
    · rw [e1, e2] at hc2
      simp only [decide_eq_true_eq] at hc2
      have : ¬ l.Pairwise (· ≤ ·) := fun h => by
        have := List.pairwise_iff_getElem.1 h (i - 1 - 1) (i - 1) (by omega) (by omega) (by omega)
        rw [getD_of_lt l (i - 1) (by omega), getD_of_lt l (i - 1 - 1) (by omega)] at hc2
        omega
      rw [decide_eq_false this]
      refine good_run 8 (obs := []) (by kernel_rfl) trivial ?_
      refine good_leaveJ (by kernel_rfl) ?_
      refine good_run 2 (obs := []) (by kernel_rfl) trivial ?_
      refine good_fin [false = false] (by kernel_rfl) ⟨rfl, trivial⟩
    · rw [e1, e2] at hc2
      simp only [decide_eq_false_iff_not] at hc2
      refine good_run 8 (obs := [InK IntKind.i64 ((↑i : Int) - (1 : Int) - (1 : Int))]) (by kernel_rfl) (by (first | omega | assumption | exact ⟨rfl, trivial⟩ | simp only [AllP, inK_iff, roomOK_iff, decide_eq_true_eq, Bool.and_eq_true, Bool.or_eq_true, Bool.not_eq_true', decide_eq_false_iff_not, and_true, true_and]; (first | omega | (and_intros <;> intros <;> (try and_intros) <;> first | omega | assumption | exact trivial)))) ?_
      refine good_backJ (i - 1) [(↑i : Int) - (1 : Int) - (1 : Int) = (↑(i - (1 : Nat)) : Int) - (1 : Int), List.length l = List.length l ∧ ∀ (i : Nat), i < List.length l → (fun i => [SV.int IntKind.i64 (List.getD l i (0 : Int))]) i = (fun i => [SV.int IntKind.i64 (List.getD l i (0 : Int))]) i] (by kernel_rfl) (by kernel_rfl) ⟨(by omega), ⟨rfl, fun _ _ => rfl⟩, trivial⟩ ?_ (by show _ < _; omega)
      refine ⟨by omega, fun j h1 h2 h3 => ?_⟩
      by_cases h : i ≤ j
      · exact hj j h h2 h3
      · have : j = i - 1 := by omega
        subst this; omega
  · have : l.Pairwise (· ≤ ·) := adj_pair fun j h1 h2 => by
      by_cases h : i ≤ j
      · exact hj j h h1 h2
      · simp only [decide_eq_false_iff_not] at hc1; omega
    rw [decide_eq_true this]
    refine good_run 2 (obs := []) (by kernel_rfl) trivial ?_
    refine good_leaveJ (by kernel_rfl) ?_
    refine good_run 7 (obs := []) (by kernel_rfl) trivial ?_
    refine good_fin [true = true] (by kernel_rfl) ⟨rfl, trivial⟩
theorem s9 (l : List Int) (ms : List Shift) : Spec Try.prog 9 [ints l, shifts ms] (.bool true) := by
  refine spec_len 0 rfl (hasBody_of_slim Try.func9 F9_ok) fun hlen0 => ?_
  refine spec_len 1 rfl (hasBody_of_slim Try.func9 F9_ok) fun hlen1 => ?_
  refine spec_of_good mixed Try.func9 F9_ok (by kernel_rfl) ?_
  refine good_run 8 (obs := []) (by kernel_rfl) trivial ?_
  refine good_call (c := True) (by kernel_rfl) (fun _ => SVles.refl _) (fun _ => s11) (by kernel_rfl) ?_
  refine good_run 13 (obs := []) (by kernel_rfl) trivial ?_
  refine good_cond (!true || decide ((40 : Int) < (↑(List.length l) : Int)) || decide ((40 : Int) < (↑(List.length ms) : Int))) (by kernel_rfl) (fun hc1 => ?_) (fun hc1 => ?_)
  · refine good_run 2 (obs := []) (by kernel_rfl) trivial ?_
    refine good_call (c := True) (by kernel_rfl) (fun _ => SVles.refl _) (fun _ => s11) (by kernel_rfl) ?_
    refine good_run 5 (obs := []) (by kernel_rfl) trivial ?_
    refine good_fin [true = true] (by kernel_rfl) ⟨rfl, trivial⟩
  · simp only [Bool.or_eq_false_iff, Bool.not_true, decide_eq_false_iff_not, true_and] at hc1
    have hl : l.length ≤ 100000 := by omega
    have hms : ms.length ≤ 100000 := by omega
    refine good_run 4 (obs := []) (by kernel_rfl) trivial ?_
    refine good_own (c := True) (by kernel_rfl) (by kernel_rfl) (SVles.refl _) (s14 (List.length l) (fun i => [SV.int IntKind.i64 (List.getD l i (0 : Int))]) (by (first | omega | assumption | exact ⟨rfl, trivial⟩ | simp only [AllP, inK_iff, roomOK_iff, decide_eq_true_eq, Bool.and_eq_true, Bool.or_eq_true, Bool.not_eq_true', decide_eq_false_iff_not, and_true, true_and]; (first | omega | (and_intros <;> intros <;> (try and_intros) <;> first | omega | assumption | exact trivial))))) ?_
    refine good_call (c := True) (by kernel_rfl) (fun _ => SVles.refl _) (fun _ => s23 (l) (by (first | omega | assumption | exact ⟨rfl, trivial⟩ | simp only [AllP, inK_iff, roomOK_iff, decide_eq_true_eq, Bool.and_eq_true, Bool.or_eq_true, Bool.not_eq_true', decide_eq_false_iff_not, and_true, true_and]; (first | omega | (and_intros <;> intros <;> (try and_intros) <;> first | omega | assumption | exact trivial))))) (by kernel_rfl) ?_
    refine good_run 10 (obs := []) (by kernel_rfl) trivial ?_
    refine good_own (c := True) (by kernel_rfl) (by kernel_rfl) (SVles.refl _) (s14 (List.length l) (fun i => [SV.int IntKind.i64 (List.getD l i (0 : Int))]) (by (first | omega | assumption | exact ⟨rfl, trivial⟩ | simp only [AllP, inK_iff, roomOK_iff, decide_eq_true_eq, Bool.and_eq_true, Bool.or_eq_true, Bool.not_eq_true', decide_eq_false_iff_not, and_true, true_and]; (first | omega | (and_intros <;> intros <;> (try and_intros) <;> first | omega | assumption | exact trivial))))) ?_
    refine good_run 1 (obs := []) (by kernel_rfl) trivial ?_
    refine good_own (c := True) (by kernel_rfl) (by kernel_rfl) (SVles.refl _) (s27 (List.length ms) (fun i => Shift.cells (List.getD ms i default)) (by (first | omega | assumption | exact ⟨rfl, trivial⟩ | simp only [AllP, inK_iff, roomOK_iff, decide_eq_true_eq, Bool.and_eq_true, Bool.or_eq_true, Bool.not_eq_true', decide_eq_false_iff_not, and_true, true_and]; (first | omega | (and_intros <;> intros <;> (try and_intros) <;> first | omega | assumption | exact trivial))))) ?_
    refine good_call (c := True) (by kernel_rfl) (fun _ => SVles.refl _) (fun _ => s26 (l) (ms) (by (first | omega | assumption | exact ⟨rfl, trivial⟩ | simp only [AllP, inK_iff, roomOK_iff, decide_eq_true_eq, Bool.and_eq_true, Bool.or_eq_true, Bool.not_eq_true', decide_eq_false_iff_not, and_true, true_and]; (first | omega | (and_intros <;> intros <;> (try and_intros) <;> first | omega | assumption | exact trivial))))) (by kernel_rfl) ?_
    refine good_run 19 (obs := []) (by kernel_rfl) trivial ?_
    refine good_call (c := (!decide ((restL l).snd = (0 : Int)) || !decide ((applyL l ms).snd = (0 : Int))) = false ∧ True) (by kernel_rfl) (fun _ => SVles.refl _) (fun _ => s36 ((applyL l ms).fst)) (by kernel_rfl) ?_
    refine good_run 5 (obs := []) (by kernel_rfl) trivial ?_
    refine good_cond (!decide ((restL l).snd = (0 : Int)) || !decide ((applyL l ms).snd = (0 : Int)) || !decide (List.Pairwise (fun x1 x2 => x1 ≤ x2) (applyL l ms).fst)) (by kernel_rfl) (fun hc2 => ?_) (fun hc2 => ?_)
    · refine good_run 7 (obs := []) (by kernel_rfl) trivial ?_
      refine good_fin [true = true] (by kernel_rfl) ⟨rfl, trivial⟩
    · have hk : chkL l = 0 ∧ (applyL l ms).2 = 0 ∧ (applyL l ms).1.Pairwise (· ≤ ·) := by
        have h0 : (restL l).2 = chkL l := by unfold restL; split <;> simp_all
        rw [h0] at hc2
        simpa [and_assoc] using hc2
      obtain ⟨hc, ha, hs⟩ := hk
      obtain ⟨h1, h2, h3, h4⟩ := chk_pos hc
      have e : applyL l ms = appF l ms := by unfold applyL; rw [if_pos hc, if_neg (by omega)]
      rw [e] at ha hs
      have hf := fewest (out := (appF l ms).1) (ms := ms) h2 (fun x hx => by have := h4 x hx; omega) (by rw [← ha]) hs
      have hr : (restL l).1.length = l.length - (lis 0 l).length := by
        unfold restL
        rw [if_pos hc, rest_all hc, outG_len]
        have := (unset_perm h2).length_eq
        rw [List.length_append] at this
        omega
      refine good_run 12 (obs := []) (by kernel_rfl) trivial ?_
      refine good_fin [decide ((↑(List.length (restL l).fst) : Int) ≤ (↑(List.length ms) : Int)) = true] (by kernel_rfl) ⟨?_, trivial⟩
      simp only [decide_eq_true_eq]
      omega
end Go.Sx.T
