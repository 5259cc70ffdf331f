/- Contracts of functions of the program, each proved by running its code symbolically (VS). -/
import Derived.Test.YtejhgipllmjhfaaVK
namespace Go.Sx.T
open Go Go.Proofs Go.Sx
set_option maxRecDepth 100000
set_option maxHeartbeats 4000000
set_option linter.unusedVariables false
set_option linter.unusedSimpArgs false
theorem s58 (a b : Int) : Spec Try.prog 58 [.int .i64 a, .int .i64 b] (.bool (decide (a < b))) := by
  refine spec_of_good mixed Try.func58 F58_ok (by kernel_rfl) ?_
  refine good_run 8 (obs := []) (by kernel_rfl) trivial ?_
  refine good_call (c := True) (by kernel_rfl) (fun _ => SVles.refl _) (fun _ => s67 (a)) (by kernel_rfl) ?_
  refine good_run 3 (obs := []) (by kernel_rfl) trivial ?_
  refine good_call (c := false = true ∧ True) (by kernel_rfl) (fun _ => SVles.refl _) (fun _ => s67 (b)) (by kernel_rfl) ?_
  refine good_run 12 (obs := []) (by kernel_rfl) trivial ?_
  refine good_fin [(false && !false || decide (a < b)) = decide (a < b)] (by kernel_rfl) ⟨(by rfl), trivial⟩
  all_goals simp
theorem s59 (a : Int) : Spec Try.prog 59 [.int .i64 a] (.bool false) := by
  refine spec_of_good mixed Try.func59 F59_ok (by kernel_rfl) ?_
  refine good_run 14 (obs := []) (by kernel_rfl) trivial ?_
  refine good_fin [(!decide (a = a)) = false] (by kernel_rfl) ⟨?_, trivial⟩
  all_goals simp
theorem s31 (l : List Int) (x : Int) (hr : l.Pairwise (· < ·)) (hl : l.length ≤ 100000) :
    Spec Try.prog 31 [ints l, .int .i64 x] (.tup [.int .i64 (atI l x), .bool (decide ((atI l x : Int) < l.length) && decide (l.getD (atI l x) 0 = x))]) := by
  have hk := atI_le l x
  have h1 := atI_below l x
  have h2 : ∀ j, atI l x ≤ j → j < l.length → x ≤ l.getD j 0 := fun j hj hjl => by
    have h3 := atI_stop l x (by omega)
    by_cases e : j = atI l x
    · rw [e]; exact h3
    · have := List.pairwise_iff_getElem.1 hr (atI l x) j (by omega) hjl (by omega)
      rw [getD_of_lt l (atI l x) (by omega)] at h3
      rw [getD_of_lt l j hjl]
      omega
  generalize atI l x = k at *
  refine spec_of_good mixed Try.func31 F31_ok (by kernel_rfl) ?_
  have hu1 : IntKind.u64.min = 0 := rfl
  have hu2 : IntKind.u64.max = 18446744073709551615 := rfl
  have hu3 : IntKind.u64.bits = 64 := rfl
  refine good_run 22 (obs := []) (by kernel_rfl) trivial ?_
  refine good_loopJ (fun q : Nat × Nat => ⟨[(7, .sv (.int .i64 (q.1))), (8, .sv (.int .i64 (q.2))), (6, LV.sv (SV.int IntKind.i64 (↑(List.length l) : Int))), (0, LV.sv (SV.lst (1 : Nat) (List.length l) fun i => [SV.int IntKind.i64 (List.getD l i (0 : Int))])), (1, LV.sv (SV.int IntKind.i64 x))], []⟩) (fun q => q.1 ≤ k ∧ k ≤ q.2 ∧ q.2 ≤ l.length) (fun q => q.2 - q.1) ((0, l.length)) [(0 : Int) = (0 : Int), (↑(List.length l) : Int) = (↑(List.length l) : Int), (↑(List.length l) : Int) = (↑(List.length l) : Int), List.length l = List.length l ∧ ∀ (i : Nat), i < List.length l → (fun i => [SV.int IntKind.i64 (List.getD l i (0 : Int))]) i = (fun i => [SV.int IntKind.i64 (List.getD l i (0 : Int))]) i, x = x] (by kernel_rfl) (by kernel_rfl) ⟨rfl, rfl, rfl, ⟨rfl, fun _ _ => rfl⟩, rfl, trivial⟩ (by omega) ?_
  rintro ⟨i, j⟩ ⟨hi, hj, hn⟩
  simp only at hi hj hn
  refine good_run 8 (obs := []) (by kernel_rfl) trivial ?_
  refine good_cond (decide ((↑i : Int) < (↑j : Int))) (by kernel_rfl) (fun hc1 => ?_) (fun hc1 => ?_)
  · have hij : i < j := by simp only [decide_eq_true_eq] at hc1; omega
    have e2 : (((i : Int) + j) / 2 ^ 1).toNat = (i + j) / 2 := by omega
    refine good_run 20 (obs := [InK IntKind.i64 ((↑i : Int) + (↑j : Int)), InK IntKind.u64 ((↑i : Int) + (↑j : Int)), (0 : Int) ≤ (1 : Int) ∧ (1 : Nat) ≤ IntKind.bits IntKind.u64, InK IntKind.i64 (((↑i : Int) + (↑j : Int)) / (2 : Int) ^ (1 : Nat)), (1 : Nat) = (1 : Nat) ∧ (0 : Int) ≤ ((↑i : Int) + (↑j : Int)) / (2 : Int) ^ (1 : Nat) ∧ ((↑i : Int) + (↑j : Int)) / (2 : Int) ^ (1 : Nat) < (↑(List.length l) : Int)]) (by kernel_rfl) (by (first | omega | assumption | exact ⟨rfl, trivial⟩ | simp only [AllP, inK_iff, roomOK_iff, decide_eq_true_eq, Bool.and_eq_true, Bool.or_eq_true, Bool.not_eq_true', decide_eq_false_iff_not, and_true, true_and]; (first | omega | (and_intros <;> intros <;> (try and_intros) <;> first | omega | assumption | exact trivial)))) ?_
    refine good_call (c := True) (by kernel_rfl) (fun _ => SVles.refl _) (fun _ => s58 (List.getD l (Int.toNat (((↑i : Int) + (↑j : Int)) / (2 : Int) ^ (1 : Nat))) (0 : Int)) (x)) (by kernel_rfl) ?_
    refine good_run 2 (obs := []) (by kernel_rfl) trivial ?_
    refine good_cond (decide (List.getD l (Int.toNat (((↑i : Int) + (↑j : Int)) / (2 : Int) ^ (1 : Nat))) (0 : Int) < x)) (by kernel_rfl) (fun hc2 => ?_) (fun hc2 => ?_)
    · have : (i + j) / 2 < k := by
        refine Nat.lt_of_not_le fun hk' => ?_
        have := h2 _ hk' (by omega)
        simp only [decide_eq_true_eq, e2] at hc2; omega
      refine good_run 7 (obs := [InK IntKind.i64 (((↑i : Int) + (↑j : Int)) / (2 : Int) ^ (1 : Nat) + (1 : Int))]) (by kernel_rfl) (by (first | omega | assumption | exact ⟨rfl, trivial⟩ | simp only [AllP, inK_iff, roomOK_iff, decide_eq_true_eq, Bool.and_eq_true, Bool.or_eq_true, Bool.not_eq_true', decide_eq_false_iff_not, and_true, true_and]; (first | omega | (and_intros <;> intros <;> (try and_intros) <;> first | omega | assumption | exact trivial)))) ?_
      refine good_backJ (((i + j) / 2 + 1, j)) [((↑i : Int) + (↑j : Int)) / (2 : Int) ^ (1 : Nat) + (1 : Int) = (↑((i + j) / (2 : Nat) + (1 : Nat)) : Int), (↑j : Int) = (↑j : Int), (↑(List.length l) : Int) = (↑(List.length l) : Int), List.length l = List.length l ∧ ∀ (i : Nat), i < List.length l → (fun i => [SV.int IntKind.i64 (List.getD l i (0 : Int))]) i = (fun i => [SV.int IntKind.i64 (List.getD l i (0 : Int))]) i, x = x] (by kernel_rfl) (by kernel_rfl) ⟨(by omega), rfl, rfl, ⟨rfl, fun _ _ => rfl⟩, rfl, trivial⟩ (by omega) (by show _ < _; omega)
    · have : k ≤ (i + j) / 2 := by
        refine Nat.le_of_not_lt fun hk' => ?_
        have := h1 _ hk'
        simp only [decide_eq_false_iff_not, e2] at hc2; omega
      refine good_run 6 (obs := []) (by kernel_rfl) trivial ?_
      refine good_backJ ((i, (i + j) / 2)) [(↑i : Int) = (↑i : Int), ((↑i : Int) + (↑j : Int)) / (2 : Int) ^ (1 : Nat) = (↑((i + j) / (2 : Nat)) : Int), (↑(List.length l) : Int) = (↑(List.length l) : Int), List.length l = List.length l ∧ ∀ (i : Nat), i < List.length l → (fun i => [SV.int IntKind.i64 (List.getD l i (0 : Int))]) i = (fun i => [SV.int IntKind.i64 (List.getD l i (0 : Int))]) i, x = x] (by kernel_rfl) (by kernel_rfl) ⟨rfl, (by omega), rfl, ⟨rfl, fun _ _ => rfl⟩, rfl, trivial⟩ (by omega) (by show _ < _; omega)
  · have : i = k := by simp only [decide_eq_false_iff_not] at hc1; omega
    subst this
    refine good_run 2 (obs := []) (by kernel_rfl) trivial ?_
    refine good_leaveJ (by kernel_rfl) ?_
    refine good_run 20 (obs := [decide ((↑i : Int) < (↑(List.length l) : Int)) = true ∧ True → (1 : Nat) = (1 : Nat) ∧ (0 : Int) ≤ (↑i : Int) ∧ (↑i : Int) < (↑(List.length l) : Int), decide (List.getD l i (0 : Int) = x) = false ∧ decide ((↑i : Int) < (↑(List.length l) : Int)) = true ∧ True → (1 : Nat) = (1 : Nat) ∧ (0 : Int) ≤ (↑i : Int) ∧ (↑i : Int) < (↑(List.length l) : Int)]) (by kernel_rfl) (by (first | omega | assumption | exact ⟨rfl, trivial⟩ | simp only [AllP, inK_iff, roomOK_iff, decide_eq_true_eq, Bool.and_eq_true, Bool.or_eq_true, Bool.not_eq_true', decide_eq_false_iff_not, and_true, true_and]; (first | omega | (and_intros <;> intros <;> (try and_intros) <;> first | omega | assumption | exact trivial)))) ?_
    refine good_call (c := decide (List.getD l i (0 : Int) = x) = false ∧ decide ((↑i : Int) < (↑(List.length l) : Int)) = true ∧ True) (by kernel_rfl) (fun _ => SVles.refl _) (fun _ => s59 (List.getD l i (0 : Int))) (by kernel_rfl) ?_
    refine good_run 4 (obs := []) (by kernel_rfl) trivial ?_
    refine good_call (c := false = true ∧ decide (List.getD l i (0 : Int) = x) = false ∧ decide ((↑i : Int) < (↑(List.length l) : Int)) = true ∧ True) (by kernel_rfl) (fun _ => SVles.refl _) (fun _ => s59 (x)) (by kernel_rfl) ?_
    refine good_run 9 (obs := []) (by kernel_rfl) trivial ?_
    refine good_fin [(↑i : Int) = (↑i : Int), (decide ((↑i : Int) < (↑(List.length l) : Int)) && (decide (List.getD l i (0 : Int) = x) || false && false)) = (decide ((↑i : Int) < (↑(List.length l) : Int)) && decide (List.getD l i (0 : Int) = x))] (by kernel_rfl) ⟨rfl, ?_, trivial⟩
    simp
end Go.Sx.T
