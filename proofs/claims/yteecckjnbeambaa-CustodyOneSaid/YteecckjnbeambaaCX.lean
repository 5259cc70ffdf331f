/- Contracts of functions of the program, each proved by running its code symbolically (CX). -/
import Derived.Test.YteecckjnbeambaaCP
import Derived.Test.YteecckjnbeambaaCC2
namespace Go.Sx.T
open Go Go.Proofs Go.Sx
set_option maxRecDepth 100000
set_option maxHeartbeats 4000000
set_option linter.unusedVariables false
set_option linter.unusedSimpArgs false
theorem s48 (l : List Place) (p : Place) : Spec Try.prog 48 [places l, p.sv] (.int .i64 (findI l fun q => decide (p = q))) := by
  refine spec_len 0 rfl (hasBody_of_slim Try.func48 F48_ok) fun hlen => ?_
  refine spec_of_good mixed Try.func48 F48_ok (by kernel_rfl) ?_
  have heq := eq24
  refine good_run 15 (obs := []) (by kernel_rfl) trivial ?_
  refine good_loopJ (fun k : Nat => ⟨[(8, .sv (.int .i64 (k))), (7, LV.sv (SV.int IntKind.i64 (↑(List.length l) : Int))), (3, LV.ptr (0 : Nat) (0 : Nat)), (0, LV.sv (SV.lst (2 : Nat) (List.length l) fun i => Place.cells (List.getD l i default)))], [Blk.cells (24 : Nat) true [SV.int IntKind.i64 p.Kind, SV.int IntKind.i64 p.Of]]⟩) (fun k => k ≤ l.length ∧ ∀ j, j < k → decide (p = l.getD j default) = false) (fun k => l.length - k) (0) [p.Kind = p.Kind, p.Of = p.Of, (0 : Int) = (0 : Int), (↑(List.length l) : Int) = (↑(List.length l) : Int), List.length l = List.length l ∧ ∀ (i : Nat), i < List.length l → (fun i => Place.cells (List.getD l i default)) i = (fun i => Place.cells (List.getD l i default)) i] (by kernel_rfl) (by kernel_rfl) ⟨rfl, rfl, rfl, rfl, ⟨rfl, fun _ _ => rfl⟩, trivial⟩ ⟨by omega, by omega⟩ ?_
  intro k hk
  refine good_run 6 (obs := []) (by kernel_rfl) trivial ?_
  refine good_cond (decide ((↑k : Int) < (↑(List.length l) : Int))) (by kernel_rfl) (fun hc1 => ?_) (fun hc1 => ?_)
  · have hlt : k < l.length := by simp only [decide_eq_true_eq] at hc1; omega
    refine good_run 19 (obs := [True → (0 : Nat) + (2 : Nat) ≤ (2 : Nat), True → (2 : Nat) = (2 : Nat) ∧ (0 : Int) ≤ (↑k : Int) ∧ (↑k : Int) < (↑(List.length l) : Int), True → (0 : Nat) + (2 : Nat) ≤ (2 : Nat), True → EqOK Try.prog (24 : TypeId) (2 : Nat) ∧ (2 : Nat) = (2 : Nat)]) (by kernel_rfl) (by (first | omega | assumption | exact ⟨rfl, trivial⟩ | simp only [AllP, inK_iff, roomOK_iff, decide_eq_true_eq, Bool.and_eq_true, Bool.or_eq_true, Bool.not_eq_true', decide_eq_false_iff_not, and_true, true_and]; (first | omega | (and_intros <;> intros <;> (try and_intros) <;> first | omega | assumption | exact trivial)))) ?_
    refine good_cond (false ^^ decide ([p.Kind, p.Of] = [(List.getD l k default).Kind, (List.getD l k default).Of])) (by kernel_rfl) (fun hc2 => ?_) (fun hc2 => ?_)
    · have hp : p = l.getD k default := (place_ints _ _).1 (by simpa using hc2)
      rw [findI_hit l (fun q => decide (p = q)) k hlt (decide_eq_true hp) hk.2]
      refine good_run 9 (obs := []) (by kernel_rfl) trivial ?_
      refine good_leaveJ (by kernel_rfl) ?_
      refine good_run 2 (obs := []) (by kernel_rfl) trivial ?_
      refine good_fin [(↑k : Int) = (↑k : Int)] (by kernel_rfl) ⟨rfl, trivial⟩
    · have hp : ¬ p = l.getD k default := fun h => by rw [← h] at hc2; simp at hc2
      refine good_run 7 (obs := [InK IntKind.i64 ((↑k : Int) + (1 : Int))]) (by kernel_rfl) (by (first | omega | assumption | exact ⟨rfl, trivial⟩ | simp only [AllP, inK_iff, roomOK_iff, decide_eq_true_eq, Bool.and_eq_true, Bool.or_eq_true, Bool.not_eq_true', decide_eq_false_iff_not, and_true, true_and]; (first | omega | (and_intros <;> intros <;> (try and_intros) <;> first | omega | assumption | exact trivial)))) ?_
      have hnx : k + 1 ≤ l.length ∧ ∀ j, j < k + 1 → decide (p = l.getD j default) = false := ⟨hlt, fun j hj => by
        rcases Nat.lt_or_ge j k with h | h
        · exact hk.2 j h
        · have : j = k := by omega
          subst this; exact decide_eq_false hp⟩
      refine good_backJ (k + 1) [p.Kind = p.Kind, p.Of = p.Of, (↑k : Int) + (1 : Int) = (↑(k + (1 : Nat)) : Int), (↑(List.length l) : Int) = (↑(List.length l) : Int), List.length l = List.length l ∧ ∀ (i : Nat), i < List.length l → (fun i => Place.cells (List.getD l i default)) i = (fun i => Place.cells (List.getD l i default)) i] (by kernel_rfl) (by kernel_rfl) ⟨rfl, rfl, (by omega), rfl, ⟨rfl, fun _ _ => rfl⟩, trivial⟩ (by omega) (by show _ < _; omega)
  · have hge : k = l.length := by simp only [decide_eq_false_iff_not] at hc1; omega
    subst hge
    rw [findI_none l (fun q => decide (p = q)) hk.2]
    refine good_run 2 (obs := []) (by kernel_rfl) trivial ?_
    refine good_leaveJ (by kernel_rfl) ?_
    refine good_run 7 (obs := []) (by kernel_rfl) trivial ?_
    refine good_fin [(-1 : Int) = (-1 : Int)] (by kernel_rfl) ⟨rfl, trivial⟩
theorem s31 (l : List Place) (p : Place) : Spec Try.prog 31 [places l, p.sv] (.bool (l.any fun q => decide (p = q))) := by
  refine spec_of_good mixed Try.func31 F31_ok (by kernel_rfl) ?_
  refine good_run 10 (obs := [(0 : Nat) + (2 : Nat) ≤ (2 : Nat)]) (by kernel_rfl) (by (first | omega | assumption | exact ⟨rfl, trivial⟩ | simp only [AllP, inK_iff, roomOK_iff, decide_eq_true_eq, Bool.and_eq_true, Bool.or_eq_true, Bool.not_eq_true', decide_eq_false_iff_not, and_true, true_and]; (first | omega | (and_intros <;> intros <;> (try and_intros) <;> first | omega | assumption | exact trivial)))) ?_
  refine good_call (c := True) (by kernel_rfl) (fun _ => SVles.refl _) (fun _ => s48 (l) (p)) (by kernel_rfl) ?_
  refine good_run 5 (obs := []) (by kernel_rfl) trivial ?_
  refine good_fin [decide ((0 : Int) ≤ findI l fun q => decide (p = q)) = List.any l fun q => decide (p = q)] (by kernel_rfl) ⟨?_, trivial⟩
  rcases findI_cases l (fun q => decide (p = q)) with ⟨e, _, _, h2⟩ | ⟨k, hk, e, _, _, _, h2⟩
  · rw [e, h2]; rfl
  · rw [e, h2]; simp
theorem s58 (a : Int) : Spec Try.prog 58 [.int .i64 a] (.bool false) := by
  refine spec_of_good mixed Try.func58 F58_ok (by kernel_rfl) ?_
  refine good_run 14 (obs := []) (by kernel_rfl) trivial ?_
  refine good_fin [(!decide (a = a)) = false] (by kernel_rfl) ⟨?_, trivial⟩
  simp
theorem s49 (a b : Int) : Spec Try.prog 49 [.int .i64 a, .int .i64 b] (.bool (decide (a < b))) := by
  refine spec_of_good mixed Try.func49 F49_ok (by kernel_rfl) ?_
  refine good_run 8 (obs := []) (by kernel_rfl) trivial ?_
  refine good_call (c := True) (by kernel_rfl) (fun _ => SVles.refl _) (fun _ => s58 (a)) (by kernel_rfl) ?_
  refine good_run 3 (obs := []) (by kernel_rfl) trivial ?_
  refine good_call (c := false = true ∧ True) (by kernel_rfl) (fun _ => SVles.refl _) (fun _ => s58 (b)) (by kernel_rfl) ?_
  refine good_run 12 (obs := []) (by kernel_rfl) trivial ?_
  refine good_fin [(false && !false || decide (a < b)) = decide (a < b)] (by kernel_rfl) ⟨(by rfl), trivial⟩
theorem pw_of_next (l : List Int) (h : ∀ j, j + 1 < l.length → l.getD j 0 ≤ l.getD (j + 1) 0) : l.Pairwise (· ≤ ·) := by
  rw [List.pairwise_iff_getElem]
  have key : ∀ n i, i + n < l.length → l.getD i 0 ≤ l.getD (i + n) 0 := by
    intro n
    induction n with
    | zero => intro i _; exact Int.le_refl _
    | succ n ih =>
      intro i hi
      have h1 := ih i (by omega)
      have h2 := h (i + n) (by omega)
      exact Int.le_trans h1 h2
  intro i j hi hj hij
  have := key (j - i) i (by omega)
  rw [show i + (j - i) = j by omega, getD_of_lt l i hi, getD_of_lt l j hj] at this
  exact this
theorem s32 (l : List Int) : Spec Try.prog 32 [ints l] (.bool (decide (l.Pairwise (· ≤ ·)))) := by
  refine spec_len 0 rfl (hasBody_of_slim Try.func32 F32_ok) fun hlen => ?_
  refine spec_of_good mixed Try.func32 F32_ok (by kernel_rfl) ?_
  refine good_run 15 (obs := [InK IntKind.i64 ((↑(List.length l) : Int) - (1 : Int))]) (by kernel_rfl) (by (first | omega | assumption | exact ⟨rfl, trivial⟩ | simp only [AllP, inK_iff, roomOK_iff, decide_eq_true_eq, Bool.and_eq_true, Bool.or_eq_true, Bool.not_eq_true', decide_eq_false_iff_not, and_true, true_and]; (first | omega | (and_intros <;> intros <;> (try and_intros) <;> first | omega | assumption | exact trivial)))) ?_
  refine good_loopJ (fun k : Nat => ⟨[(3, .sv (.int .i64 ((l.length : Int) - 1 - k))), (0, LV.sv (SV.lst (1 : Nat) (List.length l) fun i => [SV.int IntKind.i64 (List.getD l i (0 : Int))]))], []⟩) (fun k => (k + 1 ≤ l.length ∨ k = 0) ∧ ∀ j, l.length - 1 - k ≤ j → j + 1 < l.length → l.getD j 0 ≤ l.getD (j + 1) 0) (fun k => l.length - k) (0) [(↑(List.length l) : Int) - (1 : Int) = (↑(List.length l) : Int) - (1 : Int) - (0 : Int), List.length l = List.length l ∧ ∀ (i : Nat), i < List.length l → (fun i => [SV.int IntKind.i64 (List.getD l i (0 : Int))]) i = (fun i => [SV.int IntKind.i64 (List.getD l i (0 : Int))]) i] (by kernel_rfl) (by kernel_rfl) ⟨(by omega), ⟨rfl, fun _ _ => rfl⟩, trivial⟩ ⟨by omega, by omega⟩ ?_
  intro k hk
  refine good_run 7 (obs := []) (by kernel_rfl) trivial ?_
  refine good_cond (decide ((0 : Int) < (↑(List.length l) : Int) - (1 : Int) - (↑k : Int))) (by kernel_rfl) (fun hc1 => ?_) (fun hc1 => ?_)
  · have hlt : 1 ≤ l.length - 1 - k ∧ k + 1 ≤ l.length := by simp only [gt_iff_lt, decide_eq_true_eq] at hc1; omega
    have e1 : ((l.length : Int) - 1 - k).toNat = l.length - 1 - k := by omega
    have e2 : ((l.length : Int) - 1 - k - 1).toNat = l.length - 1 - k - 1 := by omega
    refine good_run 14 (obs := [True → (1 : Nat) = (1 : Nat) ∧ (0 : Int) ≤ (↑(List.length l) : Int) - (1 : Int) - (↑k : Int) ∧ (↑(List.length l) : Int) - (1 : Int) - (↑k : Int) < (↑(List.length l) : Int), True → InK IntKind.i64 ((↑(List.length l) : Int) - (1 : Int) - (↑k : Int) - (1 : Int)), True → (1 : Nat) = (1 : Nat) ∧ (0 : Int) ≤ (↑(List.length l) : Int) - (1 : Int) - (↑k : Int) - (1 : Int) ∧ (↑(List.length l) : Int) - (1 : Int) - (↑k : Int) - (1 : Int) < (↑(List.length l) : Int)]) (by kernel_rfl) (by (first | omega | assumption | exact ⟨rfl, trivial⟩ | simp only [AllP, inK_iff, roomOK_iff, decide_eq_true_eq, Bool.and_eq_true, Bool.or_eq_true, Bool.not_eq_true', decide_eq_false_iff_not, and_true, true_and]; (first | omega | (and_intros <;> intros <;> (try and_intros) <;> first | omega | assumption | exact trivial)))) ?_
    refine good_call (c := True) (by kernel_rfl) (fun _ => SVles.refl _) (fun _ => s49 (List.getD l (Int.toNat ((↑(List.length l) : Int) - (1 : Int) - (↑k : Int))) (0 : Int)) (List.getD l (Int.toNat ((↑(List.length l) : Int) - (1 : Int) - (↑k : Int) - (1 : Int))) (0 : Int))) (by kernel_rfl) ?_
    refine good_run 2 (obs := []) (by kernel_rfl) trivial ?_
    refine good_cond (decide (List.getD l (Int.toNat ((↑(List.length l) : Int) - (1 : Int) - (↑k : Int))) (0 : Int) < List.getD l (Int.toNat ((↑(List.length l) : Int) - (1 : Int) - (↑k : Int) - (1 : Int))) (0 : Int))) (by kernel_rfl) (fun hc2 => ?_) (fun hc2 => ?_)
    · rw [e1, e2] at hc2
      simp only [decide_eq_true_eq] at hc2
      have : ¬ l.Pairwise (· ≤ ·) := fun h => by
        have := List.pairwise_iff_getElem.1 h (l.length - 1 - k - 1) (l.length - 1 - k) (by omega) (by omega) (by omega)
        rw [getD_of_lt l _ (by omega), getD_of_lt l _ (by omega)] at hc2
        omega
      rw [decide_eq_false this]
      refine good_run 8 (obs := []) (by kernel_rfl) trivial ?_
      refine good_leaveJ (by kernel_rfl) ?_
      refine good_run 2 (obs := []) (by kernel_rfl) trivial ?_
      refine good_fin [false = false] (by kernel_rfl) ⟨rfl, trivial⟩
    · rw [e1, e2] at hc2
      simp only [decide_eq_false_iff_not] at hc2
      refine good_run 8 (obs := [InK IntKind.i64 ((↑(List.length l) : Int) - (1 : Int) - (↑k : Int) - (1 : Int))]) (by kernel_rfl) (by (first | omega | assumption | exact ⟨rfl, trivial⟩ | simp only [AllP, inK_iff, roomOK_iff, decide_eq_true_eq, Bool.and_eq_true, Bool.or_eq_true, Bool.not_eq_true', decide_eq_false_iff_not, and_true, true_and]; (first | omega | (and_intros <;> intros <;> (try and_intros) <;> first | omega | assumption | exact trivial)))) ?_
      have hnx : (k + 1 + 1 ≤ l.length ∨ k + 1 = 0) ∧ ∀ j, l.length - 1 - (k + 1) ≤ j → j + 1 < l.length → l.getD j 0 ≤ l.getD (j + 1) 0 := ⟨.inl (by omega), fun j h1 h2 => by
        by_cases e : j = l.length - 1 - k - 1
        · rw [e, show l.length - 1 - k - 1 + 1 = l.length - 1 - k by omega]; omega
        · exact hk.2 j (by omega) h2⟩
      refine good_backJ (k + 1) [(↑(List.length l) : Int) - (1 : Int) - (↑k : Int) - (1 : Int) = (↑(List.length l) : Int) - (1 : Int) - (↑(k + (1 : Nat)) : Int), List.length l = List.length l ∧ ∀ (i : Nat), i < List.length l → (fun i => [SV.int IntKind.i64 (List.getD l i (0 : Int))]) i = (fun i => [SV.int IntKind.i64 (List.getD l i (0 : Int))]) i] (by kernel_rfl) (by kernel_rfl) ⟨(by omega), ⟨rfl, fun _ _ => rfl⟩, trivial⟩ (by omega) (by show _ < _; omega)
  · have hge : l.length - 1 - k = 0 := by simp only [gt_iff_lt, decide_eq_false_iff_not] at hc1; omega
    have hpw : l.Pairwise (· ≤ ·) := pw_of_next l fun j hj => hk.2 j (by omega) hj
    rw [decide_eq_true hpw]
    refine good_run 2 (obs := []) (by kernel_rfl) trivial ?_
    refine good_leaveJ (by kernel_rfl) ?_
    refine good_run 7 (obs := []) (by kernel_rfl) trivial ?_
    refine good_fin [true = true] (by kernel_rfl) ⟨rfl, trivial⟩
end Go.Sx.T
