/- Contracts of functions of the program, each proved by running its code symbolically (VL). -/
import Derived.Test.YtejhgipllmjhfaaVK
namespace Go.Sx.T
open Go Go.Proofs Go.Sx
set_option maxRecDepth 100000
set_option maxHeartbeats 4000000
set_option linter.unusedVariables false
set_option linter.unusedSimpArgs false
theorem insI3 (l : List Int) (c : Int) (a : Nat) (hat : a ≤ l.length) : 0 + (a - 0) + 1 + (l.length - a) = (l.insertIdx a c).length ∧ ∀ i, i < 0 + (a - 0) + 1 + (l.length - a) →
    joinGet (0 + (a - 0) + 1) (joinGet (0 + (a - 0)) (joinGet 0 (cutRows 1 []) fun i => (fun i => [SV.int .i64 (l.getD i 0)]) (Int.toNat 0 + i)) (cutRows 1 [SV.int .i64 c])) (fun i => (fun i => [SV.int .i64 (l.getD i 0)]) (a + i)) i = (fun i => [SV.int .i64 ((l.insertIdx a c).getD i 0)]) i := by
  refine ⟨by rw [List.length_insertIdx, if_pos hat]; omega, fun i hi => ?_⟩
  show _ = [SV.int .i64 ((l.insertIdx a c).getD i 0)]
  rw [← insGet_list (fun x : Int => [SV.int .i64 x]) 0 l _ c hat i (by omega)]
  unfold joinGet insGet
  by_cases h1 : i < a
  · rw [if_pos (by omega), if_pos (by omega), if_neg (by omega), if_pos h1]
    show [SV.int .i64 (l.getD (0 + (i - 0)) 0)] = _
    rw [Nat.zero_add, Nat.sub_zero]
  · by_cases h2 : i = a
    · rw [if_pos (by omega), if_neg (by omega), if_neg h1, if_pos h2, h2, Nat.zero_add, Nat.sub_zero, Nat.sub_self]
      rfl
    · rw [if_neg (by omega), if_neg h1, if_neg h2]
      show [SV.int .i64 (l.getD (a + (i - (0 + (a - 0) + 1))) 0)] = _
      rw [show a + (i - (0 + (a - 0) + 1)) = i - 1 by omega]
theorem s56 (l : List Int) (c : Int) (hl : l.length ≤ 100000) : Spec Try.prog 56 [ints l, .int .i64 c] (ints (insU l c)) := by
  refine spec_of_good mixed Try.func56 F56_ok (by kernel_rfl) ?_
  refine good_run 12 (obs := []) (by kernel_rfl) trivial ?_
  refine good_loopJ (fun k : Nat => ⟨[(5, .sv (.int .i64 (k))), (0, LV.sv (SV.lst (1 : Nat) (List.length l) fun i => [SV.int IntKind.i64 (List.getD l i (0 : Int))])), (1, LV.sv (SV.int IntKind.i64 c))], []⟩) (fun k => k ≤ atI l c) (fun k => l.length - k) (0) [(0 : Int) = (0 : Int), List.length l = List.length l ∧ ∀ (i : Nat), i < List.length l → (fun i => [SV.int IntKind.i64 (List.getD l i (0 : Int))]) i = (fun i => [SV.int IntKind.i64 (List.getD l i (0 : Int))]) i, c = c] (by kernel_rfl) (by kernel_rfl) ⟨rfl, ⟨rfl, fun _ _ => rfl⟩, rfl, trivial⟩ (by omega) ?_
  intro k hk
  have hat := atI_le l c
  refine good_run 17 (obs := [decide ((↑k : Int) < (↑(List.length l) : Int)) = true ∧ True → (1 : Nat) = (1 : Nat) ∧ (0 : Int) ≤ (↑k : Int) ∧ (↑k : Int) < (↑(List.length l) : Int)]) (by kernel_rfl) (by (first | omega | assumption | exact ⟨rfl, trivial⟩ | simp only [AllP, inK_iff, roomOK_iff, decide_eq_true_eq, Bool.and_eq_true, Bool.or_eq_true, Bool.not_eq_true', decide_eq_false_iff_not, and_true, true_and]; (first | omega | (and_intros <;> intros <;> (try and_intros) <;> first | omega | assumption | exact trivial)))) ?_
  refine good_cond (decide ((↑k : Int) < (↑(List.length l) : Int)) && decide (List.getD l k (0 : Int) < c)) (by kernel_rfl) (fun hc1 => ?_) (fun hc1 => ?_)
  · have hkl : k < l.length := by simp only [Bool.and_eq_true, decide_eq_true_eq] at hc1; omega
    have hn : k + 1 ≤ atI l c := by
      rcases Nat.lt_or_ge k (atI l c) with h | h
      · exact h
      · have := atI_stop l c (by omega)
        simp only [Bool.and_eq_true, decide_eq_true_eq] at hc1
        have e : atI l c = k := by omega
        rw [e] at this
        omega
    refine good_run 9 (obs := [InK IntKind.i64 ((↑k : Int) + (1 : Int))]) (by kernel_rfl) (by (first | omega | assumption | exact ⟨rfl, trivial⟩ | simp only [AllP, inK_iff, roomOK_iff, decide_eq_true_eq, Bool.and_eq_true, Bool.or_eq_true, Bool.not_eq_true', decide_eq_false_iff_not, and_true, true_and]; (first | omega | (and_intros <;> intros <;> (try and_intros) <;> first | omega | assumption | exact trivial)))) ?_
    refine good_backJ (k + 1) [(↑k : Int) + (1 : Int) = (↑(k + (1 : Nat)) : Int), List.length l = List.length l ∧ ∀ (i : Nat), i < List.length l → (fun i => [SV.int IntKind.i64 (List.getD l i (0 : Int))]) i = (fun i => [SV.int IntKind.i64 (List.getD l i (0 : Int))]) i, c = c] (by kernel_rfl) (by kernel_rfl) ⟨(by omega), ⟨rfl, fun _ _ => rfl⟩, rfl, trivial⟩ (by omega) (by show _ < _; omega)
  · have hk2 : k = atI l c := by
      rcases Nat.lt_or_ge k (atI l c) with h | h
      · exfalso
        have := atI_below l c k h
        simp only [Bool.and_eq_false_iff, decide_eq_false_iff_not] at hc1
        omega
      · omega
    subst hk2
    refine good_run 2 (obs := []) (by kernel_rfl) trivial ?_
    refine good_leaveJ (by kernel_rfl) ?_
    refine good_run 18 (obs := [decide ((↑(atI l c) : Int) < (↑(List.length l) : Int)) = true ∧ True → (1 : Nat) = (1 : Nat) ∧ (0 : Int) ≤ (↑(atI l c) : Int) ∧ (↑(atI l c) : Int) < (↑(List.length l) : Int)]) (by kernel_rfl) (by (first | omega | assumption | exact ⟨rfl, trivial⟩ | simp only [AllP, inK_iff, roomOK_iff, decide_eq_true_eq, Bool.and_eq_true, Bool.or_eq_true, Bool.not_eq_true', decide_eq_false_iff_not, and_true, true_and]; (first | omega | (and_intros <;> intros <;> (try and_intros) <;> first | omega | assumption | exact trivial)))) ?_
    refine good_cond (decide ((↑(atI l c) : Int) < (↑(List.length l) : Int)) && decide (List.getD l (atI l c) (0 : Int) = c)) (by kernel_rfl) (fun hc2 => ?_) (fun hc2 => ?_)
    · have e : insU l c = l := if_pos hc2
      rw [e]
      refine good_run 8 (obs := []) (by kernel_rfl) trivial ?_
      refine good_fin [List.length l = List.length l ∧ ∀ (i : Nat), i < List.length l → (fun i => [SV.int IntKind.i64 (List.getD l i (0 : Int))]) i = (fun i => [SV.int IntKind.i64 (List.getD l i (0 : Int))]) i] (by kernel_rfl) ⟨⟨rfl, fun _ _ => rfl⟩, trivial⟩
    · have e : insU l c = l.insertIdx (atI l c) c := if_neg (by rw [hc2]; decide)
      rw [e]
      have hj := insI3 l c (atI l c) hat
      refine good_run 9 (obs := []) (by kernel_rfl) trivial ?_
      refine good_pick [0, 3, 6, 10] (by kernel_rfl) ⟨?_, ?_, ?_, ?_, trivial⟩
      refine good_run 2 (obs := []) (by kernel_rfl) trivial ?_
      refine good_all [0, 1, 4, 5, 6, 7, 8, 9, 10, 11, 12, 13, 14, 15, 16, 17, 20, 21, 22, 23, 24, 25, 26, 27, 28, 29, 30, 31, 33, 34, 35, 36, 37, 38, 39, 40, 41, 42, 43, 44] 15 [(1 : Nat) = (1 : Nat) ∧ (0 : Int) ≤ (0 : Int) ∧ (0 : Int) ≤ (↑(atI l c) : Int) ∧ (↑(atI l c) : Int) ≤ (↑(List.length l) : Int), (3 : Nat) = (3 : Nat) ∧ (1 : Nat) = (1 : Nat) ∧ (1 : Nat) = (1 : Nat) ∧ roomOK ((0 : Nat) + (atI l c - (0 : Nat))) (8 : Nat), (3 : Nat) = (3 : Nat) ∧ (1 : Nat) = (1 : Nat) ∧ (1 : Nat) = (1 : Nat) ∧ roomOK ((0 : Nat) + (atI l c - (0 : Nat)) + (1 : Nat)) (8 : Nat), (1 : Nat) = (1 : Nat) ∧ (0 : Int) ≤ (↑(atI l c) : Int) ∧ (↑(atI l c) : Int) ≤ (↑(List.length l) : Int) ∧ (↑(List.length l) : Int) ≤ (↑(List.length l) : Int), (3 : Nat) = (3 : Nat) ∧ (1 : Nat) = (1 : Nat) ∧ (1 : Nat) = (1 : Nat) ∧ roomOK ((0 : Nat) + (atI l c - (0 : Nat)) + (1 : Nat) + (List.length l - atI l c)) (8 : Nat)] (by kernel_rfl) (by (first | omega | assumption | exact ⟨rfl, trivial⟩ | simp only [AllP, inK_iff, roomOK_iff, decide_eq_true_eq, Bool.and_eq_true, Bool.or_eq_true, Bool.not_eq_true', decide_eq_false_iff_not, and_true, true_and]; (first | omega | (and_intros <;> intros <;> (try and_intros) <;> first | omega | assumption | exact trivial)))) ?_
      refine good_run 1 (obs := []) (by kernel_rfl) trivial ?_
      refine good_fin [(0 : Nat) + (atI l c - (0 : Nat)) + (1 : Nat) + (List.length l - atI l c) = List.length (List.insertIdx l (atI l c) c) ∧ ∀ (i : Nat), i < (0 : Nat) + (atI l c - (0 : Nat)) + (1 : Nat) + (List.length l - atI l c) → joinGet ((0 : Nat) + (atI l c - (0 : Nat)) + (1 : Nat)) (joinGet ((0 : Nat) + (atI l c - (0 : Nat))) (joinGet (0 : Nat) (cutRows (1 : Nat) []) fun i => (fun i => [SV.int IntKind.i64 (List.getD l i (0 : Int))]) (Int.toNat (0 : Int) + i)) (cutRows (1 : Nat) [SV.int IntKind.i64 c])) (fun i => (fun i => [SV.int IntKind.i64 (List.getD l i (0 : Int))]) (atI l c + i)) i = (fun i => [SV.int IntKind.i64 (List.getD (List.insertIdx l (atI l c) c) i (0 : Int))]) i] (by kernel_rfl) ⟨?_, trivial⟩
      rotate_left 1
      refine good_run 2 (obs := [(1 : Nat) = (1 : Nat) ∧ (0 : Int) ≤ (0 : Int) ∧ (0 : Int) ≤ (↑(atI l c) : Int) ∧ (↑(atI l c) : Int) ≤ (↑(List.length l) : Int)]) (by kernel_rfl) (by (first | omega | assumption | exact ⟨rfl, trivial⟩ | simp only [AllP, inK_iff, roomOK_iff, decide_eq_true_eq, Bool.and_eq_true, Bool.or_eq_true, Bool.not_eq_true', decide_eq_false_iff_not, and_true, true_and]; (first | omega | (and_intros <;> intros <;> (try and_intros) <;> first | omega | assumption | exact trivial)))) ?_
      refine good_pick [0, 6, 10] (by kernel_rfl) ⟨?_, ?_, ?_, trivial⟩
      refine good_run 2 (obs := []) (by kernel_rfl) trivial ?_
      refine good_all [0, 1, 4, 5, 6, 7, 8, 9, 10, 11, 12, 13, 14, 15, 16, 17, 20, 21, 22, 23, 24, 25, 26, 27, 28, 29, 30, 31, 33, 34, 35, 36, 37, 38, 39, 40, 41, 42, 43, 44] 8 [(3 : Nat) = (3 : Nat) ∧ (1 : Nat) = (1 : Nat) ∧ (1 : Nat) = (1 : Nat) ∧ roomOK ((0 : Nat) + (atI l c - (0 : Nat))) (8 : Nat), (3 : Nat) = (3 : Nat) ∧ (1 : Nat) = (1 : Nat) ∧ (1 : Nat) = (1 : Nat) ∧ roomOK ((0 : Nat) + (atI l c - (0 : Nat)) + (1 : Nat)) (8 : Nat), (1 : Nat) = (1 : Nat) ∧ (0 : Int) ≤ (↑(atI l c) : Int) ∧ (↑(atI l c) : Int) ≤ (↑(List.length l) : Int) ∧ (↑(List.length l) : Int) ≤ (↑(List.length l) : Int), (3 : Nat) = (3 : Nat) ∧ (1 : Nat) = (1 : Nat) ∧ (1 : Nat) = (1 : Nat) ∧ roomOK ((0 : Nat) + (atI l c - (0 : Nat)) + (1 : Nat) + (List.length l - atI l c)) (8 : Nat)] (by kernel_rfl) (by (first | omega | assumption | exact ⟨rfl, trivial⟩ | simp only [AllP, inK_iff, roomOK_iff, decide_eq_true_eq, Bool.and_eq_true, Bool.or_eq_true, Bool.not_eq_true', decide_eq_false_iff_not, and_true, true_and]; (first | omega | (and_intros <;> intros <;> (try and_intros) <;> first | omega | assumption | exact trivial)))) ?_
      refine good_run 1 (obs := []) (by kernel_rfl) trivial ?_
      refine good_fin [(0 : Nat) + (atI l c - (0 : Nat)) + (1 : Nat) + (List.length l - atI l c) = List.length (List.insertIdx l (atI l c) c) ∧ ∀ (i : Nat), i < (0 : Nat) + (atI l c - (0 : Nat)) + (1 : Nat) + (List.length l - atI l c) → joinGet ((0 : Nat) + (atI l c - (0 : Nat)) + (1 : Nat)) (joinGet ((0 : Nat) + (atI l c - (0 : Nat))) (joinGet (0 : Nat) (cutRows (1 : Nat) []) fun i => (fun i => [SV.int IntKind.i64 (List.getD l i (0 : Int))]) (Int.toNat (0 : Int) + i)) (cutRows (1 : Nat) [SV.int IntKind.i64 c])) (fun i => (fun i => [SV.int IntKind.i64 (List.getD l i (0 : Int))]) (atI l c + i)) i = (fun i => [SV.int IntKind.i64 (List.getD (List.insertIdx l (atI l c) c) i (0 : Int))]) i] (by kernel_rfl) ⟨?_, trivial⟩
      rotate_left 1
      refine good_run 2 (obs := []) (by kernel_rfl) trivial ?_
      refine good_all [0, 1, 4, 5, 6, 7, 8, 9, 10, 11, 12, 13, 14, 15, 16, 17, 20, 21, 22, 23, 24, 25, 26, 27, 28, 29, 30, 31, 33, 34, 35, 36, 37, 38, 39, 40, 41, 42, 43, 44] 4 [(3 : Nat) = (3 : Nat) ∧ (1 : Nat) = (1 : Nat) ∧ (1 : Nat) = (1 : Nat) ∧ roomOK ((0 : Nat) + (atI l c - (0 : Nat))) (8 : Nat), (3 : Nat) = (3 : Nat) ∧ (1 : Nat) = (1 : Nat) ∧ (1 : Nat) = (1 : Nat) ∧ roomOK ((0 : Nat) + (atI l c - (0 : Nat)) + (1 : Nat)) (8 : Nat), (1 : Nat) = (1 : Nat) ∧ (0 : Int) ≤ (↑(atI l c) : Int) ∧ (↑(atI l c) : Int) ≤ (↑(List.length l) : Int) ∧ (↑(List.length l) : Int) ≤ (↑(List.length l) : Int), (3 : Nat) = (3 : Nat) ∧ (1 : Nat) = (1 : Nat) ∧ (1 : Nat) = (1 : Nat) ∧ roomOK ((0 : Nat) + (atI l c - (0 : Nat)) + (1 : Nat) + (List.length l - atI l c)) (8 : Nat)] (by kernel_rfl) (by (first | omega | assumption | exact ⟨rfl, trivial⟩ | simp only [AllP, inK_iff, roomOK_iff, decide_eq_true_eq, Bool.and_eq_true, Bool.or_eq_true, Bool.not_eq_true', decide_eq_false_iff_not, and_true, true_and]; (first | omega | (and_intros <;> intros <;> (try and_intros) <;> first | omega | assumption | exact trivial)))) ?_
      refine good_run 1 (obs := []) (by kernel_rfl) trivial ?_
      refine good_fin [(0 : Nat) + (atI l c - (0 : Nat)) + (1 : Nat) + (List.length l - atI l c) = List.length (List.insertIdx l (atI l c) c) ∧ ∀ (i : Nat), i < (0 : Nat) + (atI l c - (0 : Nat)) + (1 : Nat) + (List.length l - atI l c) → joinGet ((0 : Nat) + (atI l c - (0 : Nat)) + (1 : Nat)) (joinGet ((0 : Nat) + (atI l c - (0 : Nat))) (joinGet (0 : Nat) (cutRows (1 : Nat) []) fun i => (fun i => [SV.int IntKind.i64 (List.getD l i (0 : Int))]) (Int.toNat (0 : Int) + i)) (cutRows (1 : Nat) [SV.int IntKind.i64 c])) (fun i => (fun i => [SV.int IntKind.i64 (List.getD l i (0 : Int))]) (atI l c + i)) i = (fun i => [SV.int IntKind.i64 (List.getD (List.insertIdx l (atI l c) c) i (0 : Int))]) i] (by kernel_rfl) ⟨?_, trivial⟩
      rotate_left 1
      refine good_run 2 (obs := [(1 : Nat) = (1 : Nat) ∧ (0 : Int) ≤ (↑(atI l c) : Int) ∧ (↑(atI l c) : Int) ≤ (↑(List.length l) : Int) ∧ (↑(List.length l) : Int) ≤ (↑(List.length l) : Int)]) (by kernel_rfl) (by (first | omega | assumption | exact ⟨rfl, trivial⟩ | simp only [AllP, inK_iff, roomOK_iff, decide_eq_true_eq, Bool.and_eq_true, Bool.or_eq_true, Bool.not_eq_true', decide_eq_false_iff_not, and_true, true_and]; (first | omega | (and_intros <;> intros <;> (try and_intros) <;> first | omega | assumption | exact trivial)))) ?_
      refine good_pick [0, 6] (by kernel_rfl) ⟨?_, ?_, trivial⟩
      refine good_run 2 (obs := []) (by kernel_rfl) trivial ?_
      refine good_all [0, 1, 4, 5, 6, 7, 8, 9, 10, 11, 12, 13, 14, 15, 16, 17, 20, 21, 22, 23, 24, 25, 26, 27, 28, 29, 30, 31, 33, 34, 35, 36, 37, 38, 39, 40, 41, 42, 43, 44] 2 [(3 : Nat) = (3 : Nat) ∧ (1 : Nat) = (1 : Nat) ∧ (1 : Nat) = (1 : Nat) ∧ roomOK ((0 : Nat) + (atI l c - (0 : Nat))) (8 : Nat), (3 : Nat) = (3 : Nat) ∧ (1 : Nat) = (1 : Nat) ∧ (1 : Nat) = (1 : Nat) ∧ roomOK ((0 : Nat) + (atI l c - (0 : Nat)) + (1 : Nat)) (8 : Nat), (3 : Nat) = (3 : Nat) ∧ (1 : Nat) = (1 : Nat) ∧ (1 : Nat) = (1 : Nat) ∧ roomOK ((0 : Nat) + (atI l c - (0 : Nat)) + (1 : Nat) + (List.length l - atI l c)) (8 : Nat)] (by kernel_rfl) (by (first | omega | assumption | exact ⟨rfl, trivial⟩ | simp only [AllP, inK_iff, roomOK_iff, decide_eq_true_eq, Bool.and_eq_true, Bool.or_eq_true, Bool.not_eq_true', decide_eq_false_iff_not, and_true, true_and]; (first | omega | (and_intros <;> intros <;> (try and_intros) <;> first | omega | assumption | exact trivial)))) ?_
      refine good_run 1 (obs := []) (by kernel_rfl) trivial ?_
      refine good_fin [(0 : Nat) + (atI l c - (0 : Nat)) + (1 : Nat) + (List.length l - atI l c) = List.length (List.insertIdx l (atI l c) c) ∧ ∀ (i : Nat), i < (0 : Nat) + (atI l c - (0 : Nat)) + (1 : Nat) + (List.length l - atI l c) → joinGet ((0 : Nat) + (atI l c - (0 : Nat)) + (1 : Nat)) (joinGet ((0 : Nat) + (atI l c - (0 : Nat))) (joinGet (0 : Nat) (cutRows (1 : Nat) []) fun i => (fun i => [SV.int IntKind.i64 (List.getD l i (0 : Int))]) (Int.toNat (0 : Int) + i)) (cutRows (1 : Nat) [SV.int IntKind.i64 c])) (fun i => (fun i => [SV.int IntKind.i64 (List.getD l i (0 : Int))]) (atI l c + i)) i = (fun i => [SV.int IntKind.i64 (List.getD (List.insertIdx l (atI l c) c) i (0 : Int))]) i] (by kernel_rfl) ⟨?_, trivial⟩
      rotate_left 1
      refine good_run 20 (obs := [(3 : Nat) = (3 : Nat) ∧ (1 : Nat) = (1 : Nat) ∧ (1 : Nat) = (1 : Nat) ∧ roomOK ((0 : Nat) + (atI l c - (0 : Nat))) (8 : Nat), (3 : Nat) = (3 : Nat) ∧ (1 : Nat) = (1 : Nat) ∧ (1 : Nat) = (1 : Nat) ∧ roomOK ((0 : Nat) + (atI l c - (0 : Nat)) + (1 : Nat)) (8 : Nat), (3 : Nat) = (3 : Nat) ∧ (1 : Nat) = (1 : Nat) ∧ (1 : Nat) = (1 : Nat) ∧ roomOK ((0 : Nat) + (atI l c - (0 : Nat)) + (1 : Nat) + (List.length l - atI l c)) (8 : Nat)]) (by kernel_rfl) (by (first | omega | assumption | exact ⟨rfl, trivial⟩ | simp only [AllP, inK_iff, roomOK_iff, decide_eq_true_eq, Bool.and_eq_true, Bool.or_eq_true, Bool.not_eq_true', decide_eq_false_iff_not, and_true, true_and]; (first | omega | (and_intros <;> intros <;> (try and_intros) <;> first | omega | assumption | exact trivial)))) ?_
      refine good_fin [(0 : Nat) + (atI l c - (0 : Nat)) + (1 : Nat) + (List.length l - atI l c) = List.length (List.insertIdx l (atI l c) c) ∧ ∀ (i : Nat), i < (0 : Nat) + (atI l c - (0 : Nat)) + (1 : Nat) + (List.length l - atI l c) → joinGet ((0 : Nat) + (atI l c - (0 : Nat)) + (1 : Nat)) (joinGet ((0 : Nat) + (atI l c - (0 : Nat))) (joinGet (0 : Nat) (cutRows (1 : Nat) []) fun i => (fun i => [SV.int IntKind.i64 (List.getD l i (0 : Int))]) (Int.toNat (0 : Int) + i)) (cutRows (1 : Nat) [SV.int IntKind.i64 c])) (fun i => (fun i => [SV.int IntKind.i64 (List.getD l i (0 : Int))]) (atI l c + i)) i = (fun i => [SV.int IntKind.i64 (List.getD (List.insertIdx l (atI l c) c) i (0 : Int))]) i] (by kernel_rfl) ⟨?_, trivial⟩
      rotate_left 1
      refine good_run 2 (obs := []) (by kernel_rfl) trivial ?_
      refine good_all [0, 1, 4, 5, 6, 7, 8, 9, 10, 11, 12, 13, 14, 15, 16, 17, 20, 21, 22, 23, 24, 25, 26, 27, 28, 29, 30, 31, 33, 34, 35, 36, 37, 38, 39, 40, 41, 42, 43, 44] 10 [(1 : Nat) = (1 : Nat) ∧ (0 : Int) ≤ (0 : Int) ∧ (0 : Int) ≤ (↑(atI l c) : Int) ∧ (↑(atI l c) : Int) ≤ (↑(List.length l) : Int), (3 : Nat) = (3 : Nat) ∧ (1 : Nat) = (1 : Nat) ∧ (1 : Nat) = (1 : Nat) ∧ roomOK ((0 : Nat) + (atI l c - (0 : Nat))) (8 : Nat), (3 : Nat) = (3 : Nat) ∧ (1 : Nat) = (1 : Nat) ∧ (1 : Nat) = (1 : Nat) ∧ roomOK ((0 : Nat) + (atI l c - (0 : Nat)) + (1 : Nat)) (8 : Nat), (1 : Nat) = (1 : Nat) ∧ (0 : Int) ≤ (↑(atI l c) : Int) ∧ (↑(atI l c) : Int) ≤ (↑(List.length l) : Int) ∧ (↑(List.length l) : Int) ≤ (↑(List.length l) : Int), (3 : Nat) = (3 : Nat) ∧ (1 : Nat) = (1 : Nat) ∧ (1 : Nat) = (1 : Nat) ∧ roomOK ((0 : Nat) + (atI l c - (0 : Nat)) + (1 : Nat) + (List.length l - atI l c)) (8 : Nat)] (by kernel_rfl) (by (first | omega | assumption | exact ⟨rfl, trivial⟩ | simp only [AllP, inK_iff, roomOK_iff, decide_eq_true_eq, Bool.and_eq_true, Bool.or_eq_true, Bool.not_eq_true', decide_eq_false_iff_not, and_true, true_and]; (first | omega | (and_intros <;> intros <;> (try and_intros) <;> first | omega | assumption | exact trivial)))) ?_
      refine good_run 1 (obs := []) (by kernel_rfl) trivial ?_
      refine good_fin [(0 : Nat) + (atI l c - (0 : Nat)) + (1 : Nat) + (List.length l - atI l c) = List.length (List.insertIdx l (atI l c) c) ∧ ∀ (i : Nat), i < (0 : Nat) + (atI l c - (0 : Nat)) + (1 : Nat) + (List.length l - atI l c) → joinGet ((0 : Nat) + (atI l c - (0 : Nat)) + (1 : Nat)) (joinGet ((0 : Nat) + (atI l c - (0 : Nat))) (joinGet (0 : Nat) (cutRows (1 : Nat) []) fun i => (fun i => [SV.int IntKind.i64 (List.getD l i (0 : Int))]) (Int.toNat (0 : Int) + i)) (cutRows (1 : Nat) [SV.int IntKind.i64 c])) (fun i => (fun i => [SV.int IntKind.i64 (List.getD l i (0 : Int))]) (atI l c + i)) i = (fun i => [SV.int IntKind.i64 (List.getD (List.insertIdx l (atI l c) c) i (0 : Int))]) i] (by kernel_rfl) ⟨?_, trivial⟩
      rotate_left 1
      refine good_run 2 (obs := [(1 : Nat) = (1 : Nat) ∧ (0 : Int) ≤ (↑(atI l c) : Int) ∧ (↑(atI l c) : Int) ≤ (↑(List.length l) : Int) ∧ (↑(List.length l) : Int) ≤ (↑(List.length l) : Int)]) (by kernel_rfl) (by (first | omega | assumption | exact ⟨rfl, trivial⟩ | simp only [AllP, inK_iff, roomOK_iff, decide_eq_true_eq, Bool.and_eq_true, Bool.or_eq_true, Bool.not_eq_true', decide_eq_false_iff_not, and_true, true_and]; (first | omega | (and_intros <;> intros <;> (try and_intros) <;> first | omega | assumption | exact trivial)))) ?_
      refine good_pick [0, 3, 6] (by kernel_rfl) ⟨?_, ?_, ?_, trivial⟩
      refine good_run 2 (obs := []) (by kernel_rfl) trivial ?_
      refine good_all [0, 1, 4, 5, 6, 7, 8, 9, 10, 11, 12, 13, 14, 15, 16, 17, 20, 21, 22, 23, 24, 25, 26, 27, 28, 29, 30, 31, 33, 34, 35, 36, 37, 38, 39, 40, 41, 42, 43, 44] 3 [(1 : Nat) = (1 : Nat) ∧ (0 : Int) ≤ (0 : Int) ∧ (0 : Int) ≤ (↑(atI l c) : Int) ∧ (↑(atI l c) : Int) ≤ (↑(List.length l) : Int), (3 : Nat) = (3 : Nat) ∧ (1 : Nat) = (1 : Nat) ∧ (1 : Nat) = (1 : Nat) ∧ roomOK ((0 : Nat) + (atI l c - (0 : Nat))) (8 : Nat), (3 : Nat) = (3 : Nat) ∧ (1 : Nat) = (1 : Nat) ∧ (1 : Nat) = (1 : Nat) ∧ roomOK ((0 : Nat) + (atI l c - (0 : Nat)) + (1 : Nat)) (8 : Nat), (3 : Nat) = (3 : Nat) ∧ (1 : Nat) = (1 : Nat) ∧ (1 : Nat) = (1 : Nat) ∧ roomOK ((0 : Nat) + (atI l c - (0 : Nat)) + (1 : Nat) + (List.length l - atI l c)) (8 : Nat)] (by kernel_rfl) (by (first | omega | assumption | exact ⟨rfl, trivial⟩ | simp only [AllP, inK_iff, roomOK_iff, decide_eq_true_eq, Bool.and_eq_true, Bool.or_eq_true, Bool.not_eq_true', decide_eq_false_iff_not, and_true, true_and]; (first | omega | (and_intros <;> intros <;> (try and_intros) <;> first | omega | assumption | exact trivial)))) ?_
      refine good_run 1 (obs := []) (by kernel_rfl) trivial ?_
      refine good_fin [(0 : Nat) + (atI l c - (0 : Nat)) + (1 : Nat) + (List.length l - atI l c) = List.length (List.insertIdx l (atI l c) c) ∧ ∀ (i : Nat), i < (0 : Nat) + (atI l c - (0 : Nat)) + (1 : Nat) + (List.length l - atI l c) → joinGet ((0 : Nat) + (atI l c - (0 : Nat)) + (1 : Nat)) (joinGet ((0 : Nat) + (atI l c - (0 : Nat))) (joinGet (0 : Nat) (cutRows (1 : Nat) []) fun i => (fun i => [SV.int IntKind.i64 (List.getD l i (0 : Int))]) (Int.toNat (0 : Int) + i)) (cutRows (1 : Nat) [SV.int IntKind.i64 c])) (fun i => (fun i => [SV.int IntKind.i64 (List.getD l i (0 : Int))]) (atI l c + i)) i = (fun i => [SV.int IntKind.i64 (List.getD (List.insertIdx l (atI l c) c) i (0 : Int))]) i] (by kernel_rfl) ⟨?_, trivial⟩
      rotate_left 1
      refine good_run 2 (obs := [(1 : Nat) = (1 : Nat) ∧ (0 : Int) ≤ (0 : Int) ∧ (0 : Int) ≤ (↑(atI l c) : Int) ∧ (↑(atI l c) : Int) ≤ (↑(List.length l) : Int)]) (by kernel_rfl) (by (first | omega | assumption | exact ⟨rfl, trivial⟩ | simp only [AllP, inK_iff, roomOK_iff, decide_eq_true_eq, Bool.and_eq_true, Bool.or_eq_true, Bool.not_eq_true', decide_eq_false_iff_not, and_true, true_and]; (first | omega | (and_intros <;> intros <;> (try and_intros) <;> first | omega | assumption | exact trivial)))) ?_
      refine good_pick [0, 6] (by kernel_rfl) ⟨?_, ?_, trivial⟩
      refine good_run 2 (obs := []) (by kernel_rfl) trivial ?_
      refine good_all [0, 1, 4, 5, 6, 7, 8, 9, 10, 11, 12, 13, 14, 15, 16, 17, 20, 21, 22, 23, 24, 25, 26, 27, 28, 29, 30, 31, 33, 34, 35, 36, 37, 38, 39, 40, 41, 42, 43, 44] 2 [(3 : Nat) = (3 : Nat) ∧ (1 : Nat) = (1 : Nat) ∧ (1 : Nat) = (1 : Nat) ∧ roomOK ((0 : Nat) + (atI l c - (0 : Nat))) (8 : Nat), (3 : Nat) = (3 : Nat) ∧ (1 : Nat) = (1 : Nat) ∧ (1 : Nat) = (1 : Nat) ∧ roomOK ((0 : Nat) + (atI l c - (0 : Nat)) + (1 : Nat)) (8 : Nat), (3 : Nat) = (3 : Nat) ∧ (1 : Nat) = (1 : Nat) ∧ (1 : Nat) = (1 : Nat) ∧ roomOK ((0 : Nat) + (atI l c - (0 : Nat)) + (1 : Nat) + (List.length l - atI l c)) (8 : Nat)] (by kernel_rfl) (by (first | omega | assumption | exact ⟨rfl, trivial⟩ | simp only [AllP, inK_iff, roomOK_iff, decide_eq_true_eq, Bool.and_eq_true, Bool.or_eq_true, Bool.not_eq_true', decide_eq_false_iff_not, and_true, true_and]; (first | omega | (and_intros <;> intros <;> (try and_intros) <;> first | omega | assumption | exact trivial)))) ?_
      refine good_run 1 (obs := []) (by kernel_rfl) trivial ?_
      refine good_fin [(0 : Nat) + (atI l c - (0 : Nat)) + (1 : Nat) + (List.length l - atI l c) = List.length (List.insertIdx l (atI l c) c) ∧ ∀ (i : Nat), i < (0 : Nat) + (atI l c - (0 : Nat)) + (1 : Nat) + (List.length l - atI l c) → joinGet ((0 : Nat) + (atI l c - (0 : Nat)) + (1 : Nat)) (joinGet ((0 : Nat) + (atI l c - (0 : Nat))) (joinGet (0 : Nat) (cutRows (1 : Nat) []) fun i => (fun i => [SV.int IntKind.i64 (List.getD l i (0 : Int))]) (Int.toNat (0 : Int) + i)) (cutRows (1 : Nat) [SV.int IntKind.i64 c])) (fun i => (fun i => [SV.int IntKind.i64 (List.getD l i (0 : Int))]) (atI l c + i)) i = (fun i => [SV.int IntKind.i64 (List.getD (List.insertIdx l (atI l c) c) i (0 : Int))]) i] (by kernel_rfl) ⟨?_, trivial⟩
      rotate_left 1
      refine good_run 20 (obs := [(3 : Nat) = (3 : Nat) ∧ (1 : Nat) = (1 : Nat) ∧ (1 : Nat) = (1 : Nat) ∧ roomOK ((0 : Nat) + (atI l c - (0 : Nat))) (8 : Nat), (3 : Nat) = (3 : Nat) ∧ (1 : Nat) = (1 : Nat) ∧ (1 : Nat) = (1 : Nat) ∧ roomOK ((0 : Nat) + (atI l c - (0 : Nat)) + (1 : Nat)) (8 : Nat), (3 : Nat) = (3 : Nat) ∧ (1 : Nat) = (1 : Nat) ∧ (1 : Nat) = (1 : Nat) ∧ roomOK ((0 : Nat) + (atI l c - (0 : Nat)) + (1 : Nat) + (List.length l - atI l c)) (8 : Nat)]) (by kernel_rfl) (by (first | omega | assumption | exact ⟨rfl, trivial⟩ | simp only [AllP, inK_iff, roomOK_iff, decide_eq_true_eq, Bool.and_eq_true, Bool.or_eq_true, Bool.not_eq_true', decide_eq_false_iff_not, and_true, true_and]; (first | omega | (and_intros <;> intros <;> (try and_intros) <;> first | omega | assumption | exact trivial)))) ?_
      refine good_fin [(0 : Nat) + (atI l c - (0 : Nat)) + (1 : Nat) + (List.length l - atI l c) = List.length (List.insertIdx l (atI l c) c) ∧ ∀ (i : Nat), i < (0 : Nat) + (atI l c - (0 : Nat)) + (1 : Nat) + (List.length l - atI l c) → joinGet ((0 : Nat) + (atI l c - (0 : Nat)) + (1 : Nat)) (joinGet ((0 : Nat) + (atI l c - (0 : Nat))) (joinGet (0 : Nat) (cutRows (1 : Nat) []) fun i => (fun i => [SV.int IntKind.i64 (List.getD l i (0 : Int))]) (Int.toNat (0 : Int) + i)) (cutRows (1 : Nat) [SV.int IntKind.i64 c])) (fun i => (fun i => [SV.int IntKind.i64 (List.getD l i (0 : Int))]) (atI l c + i)) i = (fun i => [SV.int IntKind.i64 (List.getD (List.insertIdx l (atI l c) c) i (0 : Int))]) i] (by kernel_rfl) ⟨?_, trivial⟩
      rotate_left 1
      refine good_run 2 (obs := []) (by kernel_rfl) trivial ?_
      refine good_all [0, 1, 4, 5, 6, 7, 8, 9, 10, 11, 12, 13, 14, 15, 16, 17, 20, 21, 22, 23, 24, 25, 26, 27, 28, 29, 30, 31, 33, 34, 35, 36, 37, 38, 39, 40, 41, 42, 43, 44] 2 [(1 : Nat) = (1 : Nat) ∧ (0 : Int) ≤ (0 : Int) ∧ (0 : Int) ≤ (↑(atI l c) : Int) ∧ (↑(atI l c) : Int) ≤ (↑(List.length l) : Int), (3 : Nat) = (3 : Nat) ∧ (1 : Nat) = (1 : Nat) ∧ (1 : Nat) = (1 : Nat) ∧ roomOK ((0 : Nat) + (atI l c - (0 : Nat))) (8 : Nat), (3 : Nat) = (3 : Nat) ∧ (1 : Nat) = (1 : Nat) ∧ (1 : Nat) = (1 : Nat) ∧ roomOK ((0 : Nat) + (atI l c - (0 : Nat)) + (1 : Nat)) (8 : Nat), (3 : Nat) = (3 : Nat) ∧ (1 : Nat) = (1 : Nat) ∧ (1 : Nat) = (1 : Nat) ∧ roomOK ((0 : Nat) + (atI l c - (0 : Nat)) + (1 : Nat) + (List.length l - atI l c)) (8 : Nat)] (by kernel_rfl) (by (first | omega | assumption | exact ⟨rfl, trivial⟩ | simp only [AllP, inK_iff, roomOK_iff, decide_eq_true_eq, Bool.and_eq_true, Bool.or_eq_true, Bool.not_eq_true', decide_eq_false_iff_not, and_true, true_and]; (first | omega | (and_intros <;> intros <;> (try and_intros) <;> first | omega | assumption | exact trivial)))) ?_
      refine good_run 1 (obs := []) (by kernel_rfl) trivial ?_
      refine good_fin [(0 : Nat) + (atI l c - (0 : Nat)) + (1 : Nat) + (List.length l - atI l c) = List.length (List.insertIdx l (atI l c) c) ∧ ∀ (i : Nat), i < (0 : Nat) + (atI l c - (0 : Nat)) + (1 : Nat) + (List.length l - atI l c) → joinGet ((0 : Nat) + (atI l c - (0 : Nat)) + (1 : Nat)) (joinGet ((0 : Nat) + (atI l c - (0 : Nat))) (joinGet (0 : Nat) (cutRows (1 : Nat) []) fun i => (fun i => [SV.int IntKind.i64 (List.getD l i (0 : Int))]) (Int.toNat (0 : Int) + i)) (cutRows (1 : Nat) [SV.int IntKind.i64 c])) (fun i => (fun i => [SV.int IntKind.i64 (List.getD l i (0 : Int))]) (atI l c + i)) i = (fun i => [SV.int IntKind.i64 (List.getD (List.insertIdx l (atI l c) c) i (0 : Int))]) i] (by kernel_rfl) ⟨?_, trivial⟩
      rotate_left 1
      all_goals exact hj
theorem s57 (l : List Int) (u : Int) : Spec Try.prog 57 [ints l, .int .i64 u] (.bool (l.any fun x => decide (x = u))) := by
  refine spec_len 0 rfl (hasBody_of_slim Try.func57 F57_ok) fun hlen => ?_
  refine spec_of_good mixed Try.func57 F57_ok (by kernel_rfl) ?_
  refine good_run 12 (obs := []) (by kernel_rfl) trivial ?_
  refine good_loopJ (fun k : Nat => ⟨[(5, .sv (.int .i64 (k))), (0, LV.sv (SV.lst (1 : Nat) (List.length l) fun i => [SV.int IntKind.i64 (List.getD l i (0 : Int))])), (1, LV.sv (SV.int IntKind.i64 u))], []⟩) (fun k => k ≤ l.length ∧ ∀ j, j < k → decide (l.getD j 0 = u) = false) (fun k => l.length - k) (0) [(0 : Int) = (0 : Int), List.length l = List.length l ∧ ∀ (i : Nat), i < List.length l → (fun i => [SV.int IntKind.i64 (List.getD l i (0 : Int))]) i = (fun i => [SV.int IntKind.i64 (List.getD l i (0 : Int))]) i, u = u] (by kernel_rfl) (by kernel_rfl) ⟨rfl, ⟨rfl, fun _ _ => rfl⟩, rfl, trivial⟩ ⟨by omega, by omega⟩ ?_
  intro k hk
  refine good_run 9 (obs := []) (by kernel_rfl) trivial ?_
  refine good_cond (decide ((↑k : Int) < (↑(List.length l) : Int))) (by kernel_rfl) (fun hc1 => ?_) (fun hc1 => ?_)
  · have hlt : k < l.length := by simp only [decide_eq_true_eq] at hc1; omega
    refine good_run 13 (obs := [(1 : Nat) = (1 : Nat) ∧ (0 : Int) ≤ (↑k : Int) ∧ (↑k : Int) < (↑(List.length l) : Int)]) (by kernel_rfl) (by (first | omega | assumption | exact ⟨rfl, trivial⟩ | simp only [AllP, inK_iff, roomOK_iff, decide_eq_true_eq, Bool.and_eq_true, Bool.or_eq_true, Bool.not_eq_true', decide_eq_false_iff_not, and_true, true_and]; (first | omega | (and_intros <;> intros <;> (try and_intros) <;> first | omega | assumption | exact trivial)))) ?_
    refine good_cond (decide (List.getD l k (0 : Int) = u)) (by kernel_rfl) (fun hc2 => ?_) (fun hc2 => ?_)
    · have e : (l.any fun x => decide (x = u)) = true := any_hit (f := fun x => decide (x = u)) hlt hc2
      rw [e]
      refine good_run 8 (obs := []) (by kernel_rfl) trivial ?_
      refine good_leaveJ (by kernel_rfl) ?_
      refine good_run 2 (obs := []) (by kernel_rfl) trivial ?_
      refine good_fin [true = true] (by kernel_rfl) ⟨rfl, trivial⟩
    · have hn : k + 1 ≤ l.length ∧ ∀ j, j < k + 1 → decide (l.getD j 0 = u) = false := ⟨hlt, fun j hj => by
        rcases Nat.lt_or_ge j k with h | h
        · exact hk.2 j h
        · have : j = k := by omega
          subst this
          exact hc2⟩
      refine good_run 8 (obs := [InK IntKind.i64 ((↑k : Int) + (1 : Int))]) (by kernel_rfl) (by (first | omega | assumption | exact ⟨rfl, trivial⟩ | simp only [AllP, inK_iff, roomOK_iff, decide_eq_true_eq, Bool.and_eq_true, Bool.or_eq_true, Bool.not_eq_true', decide_eq_false_iff_not, and_true, true_and]; (first | omega | (and_intros <;> intros <;> (try and_intros) <;> first | omega | assumption | exact trivial)))) ?_
      refine good_backJ (k + 1) [(↑k : Int) + (1 : Int) = (↑(k + (1 : Nat)) : Int), List.length l = List.length l ∧ ∀ (i : Nat), i < List.length l → (fun i => [SV.int IntKind.i64 (List.getD l i (0 : Int))]) i = (fun i => [SV.int IntKind.i64 (List.getD l i (0 : Int))]) i, u = u] (by kernel_rfl) (by kernel_rfl) ⟨(by omega), ⟨rfl, fun _ _ => rfl⟩, rfl, trivial⟩ (by omega) (by show _ < _; omega)
  · have hge : k = l.length := by simp only [decide_eq_false_iff_not] at hc1; omega
    subst hge
    have e : (l.any fun x => decide (x = u)) = false := any_none (f := fun x => decide (x = u)) 0 hk.2
    rw [e]
    refine good_run 2 (obs := []) (by kernel_rfl) trivial ?_
    refine good_leaveJ (by kernel_rfl) ?_
    refine good_run 7 (obs := []) (by kernel_rfl) trivial ?_
    refine good_fin [false = false] (by kernel_rfl) ⟨rfl, trivial⟩
theorem foldU_len (xs : List Int) : (foldU xs).length ≤ xs.length := by
  refine rev_ind (P := fun xs => (foldU xs).length ≤ xs.length) (by simp [foldU]) (fun xs x h => ?_) xs
  rw [foldU_snoc, List.length_append, List.length_singleton, insU]
  split
  · omega
  · rw [List.length_insertIdx, if_pos (atI_le _ _)]; omega
def fldC (b : Bool) (c : Came) : Int := if b = true then c.Office else c.Acc
theorem ofC_none {l : List Came} {u : Int} (h : (ofC l u).2 = false) : (ofC l u).1 = ⟨0, 0, 0, 0⟩ := by
  unfold ofC at h ⊢
  split
  · rename_i c hc; rw [hc] at h; cases h
  · rfl
theorem pick_fld (l : List Came) (b : Bool) (k : Int) : pickC (fldC b) l k = if fldC b (ofC l k).1 = 0 then [] else [fldC b (ofC l k).1] := by
  unfold pickC
  by_cases h0 : fldC b (ofC l k).1 = 0
  · rw [if_pos h0, if_neg]; simp [h0]
  · rw [if_neg h0, if_pos]
    have : (ofC l k).2 = true := Classical.byContradiction fun h => h0 (by
      rw [ofC_none (by simpa using h)]
      unfold fldC; split <;> rfl)
    simp [h0, this]
theorem s53 (l : List Came) (ks : List Int) (b : Bool) : Spec Try.prog 53 [cames l, ints ks, .bool b] (.tup [ints (gatherC (fldC b) l ks).1, .int .i64 (gatherC (fldC b) l ks).2]) := by
  refine spec_len 1 rfl (hasBody_of_slim Try.func53 F53_ok) fun hlen => ?_
  refine spec_of_good mixed Try.func53 F53_ok (by kernel_rfl) ?_
  refine good_run 10 (obs := []) (by kernel_rfl) trivial ?_
  refine good_call (c := True) (by kernel_rfl) (fun _ => SVles.refl _) (fun _ => s44 (l)) (by kernel_rfl) ?_
  refine good_run 3 (obs := []) (by kernel_rfl) trivial ?_
  refine good_cond (!decide ((checkC l).snd = (0 : Int))) (by kernel_rfl) (fun hc1 => ?_) (fun hc1 => ?_)
  · have e : gatherC (fldC b) l ks = ([], 1) := if_pos (by simpa using hc1)
    rw [e]
    refine good_run 8 (obs := []) (by kernel_rfl) trivial ?_
    refine good_fin [(0 : Nat) = (0 : Nat), (1 : Int) = (1 : Int)] (by kernel_rfl) ⟨rfl, rfl, trivial⟩
  · have hc : (checkC l).2 = 0 := by simpa using hc1
    clear hc1
    refine good_run 9 (obs := []) (by kernel_rfl) trivial ?_
    refine good_cond (decide ((1024 : Int) < (↑(List.length ks) : Int))) (by kernel_rfl) (fun hc1 => ?_) (fun hc1 => ?_)
    · have e : gatherC (fldC b) l ks = ([], 8) := by rw [gatherC, if_neg (by simp [hc]), if_pos (by simp only [gt_iff_lt, decide_eq_true_eq] at hc1; omega)]
      rw [e]
      refine good_run 8 (obs := []) (by kernel_rfl) trivial ?_
      refine good_fin [(0 : Nat) = (0 : Nat), (8 : Int) = (8 : Int)] (by kernel_rfl) ⟨rfl, rfl, trivial⟩
    · have hl : ¬ 1024 < ks.length := by simp only [gt_iff_lt, decide_eq_false_iff_not] at hc1; omega
      have e : gatherC (fldC b) l ks = (foldU (gathP (fldC b) l ks ks.length), 0) := by
        rw [gatherC, if_neg (by simp [hc]), if_neg hl, compact_eq, gathP, List.take_length]; rfl
      clear hc1
      rw [e]
      refine good_run 13 (obs := []) (by kernel_rfl) trivial ?_
      refine good_loopJ (fun k : Nat => ⟨[(9, .sv (.int .i64 (k))), (8, .sv (ints (foldU (gathP (fldC b) l ks k)))), (0, LV.sv (SV.lst (4 : Nat) (List.length l) fun i => Came.cells (List.getD l i default))), (1, LV.sv (SV.lst (1 : Nat) (List.length ks) fun i => [SV.int IntKind.i64 (List.getD ks i (0 : Int))])), (2, LV.sv (SV.bool b))], []⟩) (fun k => k ≤ ks.length) (fun k => ks.length - k) (0) [(0 : Int) = (0 : Int), (0 : Nat) = (0 : Nat), List.length l = List.length l ∧ ∀ (i : Nat), i < List.length l → (fun i => Came.cells (List.getD l i default)) i = (fun i => Came.cells (List.getD l i default)) i, List.length ks = List.length ks ∧ ∀ (i : Nat), i < List.length ks → (fun i => [SV.int IntKind.i64 (List.getD ks i (0 : Int))]) i = (fun i => [SV.int IntKind.i64 (List.getD ks i (0 : Int))]) i, b = b] (by kernel_rfl) (by kernel_rfl) ⟨rfl, rfl, ⟨rfl, fun _ _ => rfl⟩, ⟨rfl, fun _ _ => rfl⟩, rfl, trivial⟩ (by omega) ?_
      intro k hk
      have hgl := gathP_le (fldC b) l ks k hk
      have hfl := foldU_len (gathP (fldC b) l ks k)
      refine good_run 9 (obs := []) (by kernel_rfl) trivial ?_
      refine good_cond (decide ((↑k : Int) < (↑(List.length ks) : Int))) (by kernel_rfl) (fun hc1 => ?_) (fun hc1 => ?_)
      · have hlt : k < ks.length := by simp only [decide_eq_true_eq] at hc1; omega
        have hst := gathP_succ (fldC b) l ks k hlt
        have hp := pick_fld l b (ks.getD k 0)
        cases b
        · have hb0 : True := trivial
          have hf : fldC false (ofC l (ks.getD k 0)).1 = (ofC l (ks.getD k 0)).1.Acc := rfl
          refine good_run 10 (obs := [(1 : Nat) = (1 : Nat) ∧ (0 : Int) ≤ (↑k : Int) ∧ (↑k : Int) < (↑(List.length ks) : Int)]) (by kernel_rfl) (by (first | omega | assumption | exact ⟨rfl, trivial⟩ | simp only [AllP, inK_iff, roomOK_iff, decide_eq_true_eq, Bool.and_eq_true, Bool.or_eq_true, Bool.not_eq_true', decide_eq_false_iff_not, and_true, true_and]; (first | omega | (and_intros <;> intros <;> (try and_intros) <;> first | omega | assumption | exact trivial)))) ?_
          refine good_call (c := True) (by kernel_rfl) (fun _ => SVles.refl _) (fun _ => s16 (l) (List.getD ks k (0 : Int))) (by kernel_rfl) ?_
          refine good_run 21 (obs := [(3 : Nat) = (3 : Nat) ∧ (0 : Nat) + (3 : Nat) ≤ (3 : Nat)]) (by kernel_rfl) (by (first | omega | assumption | exact ⟨rfl, trivial⟩ | simp only [AllP, inK_iff, roomOK_iff, decide_eq_true_eq, Bool.and_eq_true, Bool.or_eq_true, Bool.not_eq_true', decide_eq_false_iff_not, and_true, true_and]; (first | omega | (and_intros <;> intros <;> (try and_intros) <;> first | omega | assumption | exact trivial)))) ?_
          refine good_cond false (by kernel_rfl) (fun h => nomatch h) (fun _ => ?_)
          refine good_run 7 (obs := []) (by kernel_rfl) trivial ?_
          refine good_cond (!decide ((ofC l (List.getD ks k (0 : Int))).fst.Acc = (0 : Int))) (by kernel_rfl) (fun hc2 => ?_) (fun hc2 => ?_)
          · have h0 : (ofC l (ks.getD k 0)).1.Acc ≠ 0 := by simpa using hc2
            rw [hf, if_neg h0] at hp
            rw [hp] at hst
            have hu : foldU (gathP (fldC false) l ks (k + 1)) = insU (foldU (gathP (fldC false) l ks k)) (ofC l (ks.getD k 0)).1.Acc := by rw [hst, foldU_snoc]
            refine good_run 3 (obs := []) (by kernel_rfl) trivial ?_
            refine good_call (c := True) (by kernel_rfl) (fun _ => SVles.refl _) (fun _ => s56 (foldU (gathP (fldC false) l ks k)) ((ofC l (List.getD ks k (0 : Int))).fst.Acc) (by (first | omega | assumption | exact ⟨rfl, trivial⟩ | simp only [AllP, inK_iff, roomOK_iff, decide_eq_true_eq, Bool.and_eq_true, Bool.or_eq_true, Bool.not_eq_true', decide_eq_false_iff_not, and_true, true_and]; (first | omega | (and_intros <;> intros <;> (try and_intros) <;> first | omega | assumption | exact trivial))))) (by kernel_rfl) ?_
            refine good_run 10 (obs := [InK IntKind.i64 ((↑k : Int) + (1 : Int))]) (by kernel_rfl) (by (first | omega | assumption | exact ⟨rfl, trivial⟩ | simp only [AllP, inK_iff, roomOK_iff, decide_eq_true_eq, Bool.and_eq_true, Bool.or_eq_true, Bool.not_eq_true', decide_eq_false_iff_not, and_true, true_and]; (first | omega | (and_intros <;> intros <;> (try and_intros) <;> first | omega | assumption | exact trivial)))) ?_
            refine good_backJ (k + 1) [(↑k : Int) + (1 : Int) = (↑(k + (1 : Nat)) : Int), List.length (insU (foldU (gathP (fldC false) l ks k)) (ofC l (List.getD ks k (0 : Int))).fst.Acc) = List.length (foldU (gathP (fldC false) l ks (k + (1 : Nat)))) ∧ ∀ (i : Nat), i < List.length (insU (foldU (gathP (fldC false) l ks k)) (ofC l (List.getD ks k (0 : Int))).fst.Acc) → (fun i => [SV.int IntKind.i64 (List.getD (insU (foldU (gathP (fldC false) l ks k)) (ofC l (List.getD ks k (0 : Int))).fst.Acc) i (0 : Int))]) i = (fun i => [SV.int IntKind.i64 (List.getD (foldU (gathP (fldC false) l ks (k + (1 : Nat)))) i (0 : Int))]) i, List.length l = List.length l ∧ ∀ (i : Nat), i < List.length l → (fun i => Came.cells (List.getD l i default)) i = (fun i => Came.cells (List.getD l i default)) i, List.length ks = List.length ks ∧ ∀ (i : Nat), i < List.length ks → (fun i => [SV.int IntKind.i64 (List.getD ks i (0 : Int))]) i = (fun i => [SV.int IntKind.i64 (List.getD ks i (0 : Int))]) i, false = false] (by kernel_rfl) (by kernel_rfl) ⟨(by omega), ?_, ⟨rfl, fun _ _ => rfl⟩, ⟨rfl, fun _ _ => rfl⟩, rfl, trivial⟩ (by omega) (by show _ < _; omega)
            · rw [hu]; exact ⟨rfl, fun _ _ => rfl⟩
          · have h0 : (ofC l (ks.getD k 0)).1.Acc = 0 := by simpa using hc2
            rw [hf, if_pos h0] at hp
            rw [hp, List.append_nil] at hst
            refine good_run 8 (obs := [InK IntKind.i64 ((↑k : Int) + (1 : Int))]) (by kernel_rfl) (by (first | omega | assumption | exact ⟨rfl, trivial⟩ | simp only [AllP, inK_iff, roomOK_iff, decide_eq_true_eq, Bool.and_eq_true, Bool.or_eq_true, Bool.not_eq_true', decide_eq_false_iff_not, and_true, true_and]; (first | omega | (and_intros <;> intros <;> (try and_intros) <;> first | omega | assumption | exact trivial)))) ?_
            refine good_backJ (k + 1) [(↑k : Int) + (1 : Int) = (↑(k + (1 : Nat)) : Int), List.length (foldU (gathP (fldC false) l ks k)) = List.length (foldU (gathP (fldC false) l ks (k + (1 : Nat)))) ∧ ∀ (i : Nat), i < List.length (foldU (gathP (fldC false) l ks k)) → (fun i => [SV.int IntKind.i64 (List.getD (foldU (gathP (fldC false) l ks k)) i (0 : Int))]) i = (fun i => [SV.int IntKind.i64 (List.getD (foldU (gathP (fldC false) l ks (k + (1 : Nat)))) i (0 : Int))]) i, List.length l = List.length l ∧ ∀ (i : Nat), i < List.length l → (fun i => Came.cells (List.getD l i default)) i = (fun i => Came.cells (List.getD l i default)) i, List.length ks = List.length ks ∧ ∀ (i : Nat), i < List.length ks → (fun i => [SV.int IntKind.i64 (List.getD ks i (0 : Int))]) i = (fun i => [SV.int IntKind.i64 (List.getD ks i (0 : Int))]) i, false = false] (by kernel_rfl) (by kernel_rfl) ⟨(by omega), ?_, ⟨rfl, fun _ _ => rfl⟩, ⟨rfl, fun _ _ => rfl⟩, rfl, trivial⟩ (by omega) (by show _ < _; omega)
            · rw [hst]; exact ⟨rfl, fun _ _ => rfl⟩
        · have hb0 : True := trivial
          have hf : fldC true (ofC l (ks.getD k 0)).1 = (ofC l (ks.getD k 0)).1.Office := rfl
          refine good_run 10 (obs := [(1 : Nat) = (1 : Nat) ∧ (0 : Int) ≤ (↑k : Int) ∧ (↑k : Int) < (↑(List.length ks) : Int)]) (by kernel_rfl) (by (first | omega | assumption | exact ⟨rfl, trivial⟩ | simp only [AllP, inK_iff, roomOK_iff, decide_eq_true_eq, Bool.and_eq_true, Bool.or_eq_true, Bool.not_eq_true', decide_eq_false_iff_not, and_true, true_and]; (first | omega | (and_intros <;> intros <;> (try and_intros) <;> first | omega | assumption | exact trivial)))) ?_
          refine good_call (c := True) (by kernel_rfl) (fun _ => SVles.refl _) (fun _ => s16 (l) (List.getD ks k (0 : Int))) (by kernel_rfl) ?_
          refine good_run 21 (obs := [(3 : Nat) = (3 : Nat) ∧ (0 : Nat) + (3 : Nat) ≤ (3 : Nat)]) (by kernel_rfl) (by (first | omega | assumption | exact ⟨rfl, trivial⟩ | simp only [AllP, inK_iff, roomOK_iff, decide_eq_true_eq, Bool.and_eq_true, Bool.or_eq_true, Bool.not_eq_true', decide_eq_false_iff_not, and_true, true_and]; (first | omega | (and_intros <;> intros <;> (try and_intros) <;> first | omega | assumption | exact trivial)))) ?_
          refine good_cond true (by kernel_rfl) (fun _ => ?_) (fun h => nomatch h)
          refine good_run 12 (obs := []) (by kernel_rfl) trivial ?_
          refine good_cond (!decide ((ofC l (List.getD ks k (0 : Int))).fst.Office = (0 : Int))) (by kernel_rfl) (fun hc2 => ?_) (fun hc2 => ?_)
          · have h0 : (ofC l (ks.getD k 0)).1.Office ≠ 0 := by simpa using hc2
            rw [hf, if_neg h0] at hp
            rw [hp] at hst
            have hu : foldU (gathP (fldC true) l ks (k + 1)) = insU (foldU (gathP (fldC true) l ks k)) (ofC l (ks.getD k 0)).1.Office := by rw [hst, foldU_snoc]
            refine good_run 3 (obs := []) (by kernel_rfl) trivial ?_
            refine good_call (c := True) (by kernel_rfl) (fun _ => SVles.refl _) (fun _ => s56 (foldU (gathP (fldC true) l ks k)) ((ofC l (List.getD ks k (0 : Int))).fst.Office) (by (first | omega | assumption | exact ⟨rfl, trivial⟩ | simp only [AllP, inK_iff, roomOK_iff, decide_eq_true_eq, Bool.and_eq_true, Bool.or_eq_true, Bool.not_eq_true', decide_eq_false_iff_not, and_true, true_and]; (first | omega | (and_intros <;> intros <;> (try and_intros) <;> first | omega | assumption | exact trivial))))) (by kernel_rfl) ?_
            refine good_run 10 (obs := [InK IntKind.i64 ((↑k : Int) + (1 : Int))]) (by kernel_rfl) (by (first | omega | assumption | exact ⟨rfl, trivial⟩ | simp only [AllP, inK_iff, roomOK_iff, decide_eq_true_eq, Bool.and_eq_true, Bool.or_eq_true, Bool.not_eq_true', decide_eq_false_iff_not, and_true, true_and]; (first | omega | (and_intros <;> intros <;> (try and_intros) <;> first | omega | assumption | exact trivial)))) ?_
            refine good_backJ (k + 1) [(↑k : Int) + (1 : Int) = (↑(k + (1 : Nat)) : Int), List.length (insU (foldU (gathP (fldC true) l ks k)) (ofC l (List.getD ks k (0 : Int))).fst.Office) = List.length (foldU (gathP (fldC true) l ks (k + (1 : Nat)))) ∧ ∀ (i : Nat), i < List.length (insU (foldU (gathP (fldC true) l ks k)) (ofC l (List.getD ks k (0 : Int))).fst.Office) → (fun i => [SV.int IntKind.i64 (List.getD (insU (foldU (gathP (fldC true) l ks k)) (ofC l (List.getD ks k (0 : Int))).fst.Office) i (0 : Int))]) i = (fun i => [SV.int IntKind.i64 (List.getD (foldU (gathP (fldC true) l ks (k + (1 : Nat)))) i (0 : Int))]) i, List.length l = List.length l ∧ ∀ (i : Nat), i < List.length l → (fun i => Came.cells (List.getD l i default)) i = (fun i => Came.cells (List.getD l i default)) i, List.length ks = List.length ks ∧ ∀ (i : Nat), i < List.length ks → (fun i => [SV.int IntKind.i64 (List.getD ks i (0 : Int))]) i = (fun i => [SV.int IntKind.i64 (List.getD ks i (0 : Int))]) i, true = true] (by kernel_rfl) (by kernel_rfl) ⟨(by omega), ?_, ⟨rfl, fun _ _ => rfl⟩, ⟨rfl, fun _ _ => rfl⟩, rfl, trivial⟩ (by omega) (by show _ < _; omega)
            · rw [hu]; exact ⟨rfl, fun _ _ => rfl⟩
          · have h0 : (ofC l (ks.getD k 0)).1.Office = 0 := by simpa using hc2
            rw [hf, if_pos h0] at hp
            rw [hp, List.append_nil] at hst
            refine good_run 8 (obs := [InK IntKind.i64 ((↑k : Int) + (1 : Int))]) (by kernel_rfl) (by (first | omega | assumption | exact ⟨rfl, trivial⟩ | simp only [AllP, inK_iff, roomOK_iff, decide_eq_true_eq, Bool.and_eq_true, Bool.or_eq_true, Bool.not_eq_true', decide_eq_false_iff_not, and_true, true_and]; (first | omega | (and_intros <;> intros <;> (try and_intros) <;> first | omega | assumption | exact trivial)))) ?_
            refine good_backJ (k + 1) [(↑k : Int) + (1 : Int) = (↑(k + (1 : Nat)) : Int), List.length (foldU (gathP (fldC true) l ks k)) = List.length (foldU (gathP (fldC true) l ks (k + (1 : Nat)))) ∧ ∀ (i : Nat), i < List.length (foldU (gathP (fldC true) l ks k)) → (fun i => [SV.int IntKind.i64 (List.getD (foldU (gathP (fldC true) l ks k)) i (0 : Int))]) i = (fun i => [SV.int IntKind.i64 (List.getD (foldU (gathP (fldC true) l ks (k + (1 : Nat)))) i (0 : Int))]) i, List.length l = List.length l ∧ ∀ (i : Nat), i < List.length l → (fun i => Came.cells (List.getD l i default)) i = (fun i => Came.cells (List.getD l i default)) i, List.length ks = List.length ks ∧ ∀ (i : Nat), i < List.length ks → (fun i => [SV.int IntKind.i64 (List.getD ks i (0 : Int))]) i = (fun i => [SV.int IntKind.i64 (List.getD ks i (0 : Int))]) i, true = true] (by kernel_rfl) (by kernel_rfl) ⟨(by omega), ?_, ⟨rfl, fun _ _ => rfl⟩, ⟨rfl, fun _ _ => rfl⟩, rfl, trivial⟩ (by omega) (by show _ < _; omega)
            · rw [hst]; exact ⟨rfl, fun _ _ => rfl⟩
      · have hge : k = ks.length := by simp only [decide_eq_false_iff_not] at hc1; omega
        subst hge
        refine good_run 2 (obs := []) (by kernel_rfl) trivial ?_
        refine good_leaveJ (by kernel_rfl) ?_
        refine good_run 9 (obs := []) (by kernel_rfl) trivial ?_
        refine good_fin [List.length (foldU (gathP (fldC b) l ks (List.length ks))) = List.length (foldU (gathP (fldC b) l ks (List.length ks)), (0 : Int)).fst ∧ ∀ (i : Nat), i < List.length (foldU (gathP (fldC b) l ks (List.length ks))) → (fun i => [SV.int IntKind.i64 (List.getD (foldU (gathP (fldC b) l ks (List.length ks))) i (0 : Int))]) i = (fun i => [SV.int IntKind.i64 (List.getD (foldU (gathP (fldC b) l ks (List.length ks)), (0 : Int)).fst i (0 : Int))]) i, (0 : Int) = (0 : Int)] (by kernel_rfl) ⟨⟨rfl, fun _ _ => rfl⟩, rfl, trivial⟩
theorem s22 (l : List Came) (ks : List Int) : Spec Try.prog 22 [cames l, ints ks] (.tup [ints (gatherC Came.Acc l ks).1, .int .i64 (gatherC Came.Acc l ks).2]) := by
  refine spec_of_good mixed Try.func22 F22_ok (by kernel_rfl) ?_
  refine good_run 10 (obs := []) (by kernel_rfl) trivial ?_
  refine good_call (c := True) (by kernel_rfl) (fun _ => SVles.refl _) (fun _ => s51 l ks 52 Came.Acc s52) (by kernel_rfl) ?_
  refine good_run 7 (obs := []) (by kernel_rfl) trivial ?_
  refine good_fin [List.length (gatherC Came.Acc l ks).fst = List.length (gatherC Came.Acc l ks).fst ∧ ∀ (i : Nat), i < List.length (gatherC Came.Acc l ks).fst → (fun i => [SV.int IntKind.i64 (List.getD (gatherC Came.Acc l ks).fst i (0 : Int))]) i = (fun i => [SV.int IntKind.i64 (List.getD (gatherC Came.Acc l ks).fst i (0 : Int))]) i, (gatherC Came.Acc l ks).snd = (gatherC Came.Acc l ks).snd] (by kernel_rfl) ⟨⟨rfl, fun _ _ => rfl⟩, rfl, trivial⟩
theorem s25 (l : List Came) (ks : List Int) : Spec Try.prog 25 [cames l, ints ks] (.tup [ints (gatherC Came.Office l ks).1, .int .i64 (gatherC Came.Office l ks).2]) := by
  refine spec_of_good mixed Try.func25 F25_ok (by kernel_rfl) ?_
  refine good_run 10 (obs := []) (by kernel_rfl) trivial ?_
  refine good_call (c := True) (by kernel_rfl) (fun _ => SVles.refl _) (fun _ => s51 l ks 54 Came.Office s54) (by kernel_rfl) ?_
  refine good_run 7 (obs := []) (by kernel_rfl) trivial ?_
  refine good_fin [List.length (gatherC Came.Office l ks).fst = List.length (gatherC Came.Office l ks).fst ∧ ∀ (i : Nat), i < List.length (gatherC Came.Office l ks).fst → (fun i => [SV.int IntKind.i64 (List.getD (gatherC Came.Office l ks).fst i (0 : Int))]) i = (fun i => [SV.int IntKind.i64 (List.getD (gatherC Came.Office l ks).fst i (0 : Int))]) i, (gatherC Came.Office l ks).snd = (gatherC Came.Office l ks).snd] (by kernel_rfl) ⟨⟨rfl, fun _ _ => rfl⟩, rfl, trivial⟩
theorem s24 (l : List Came) (ks : List Int) : Spec Try.prog 24 [cames l, ints ks] (.tup [ints (gatherC Came.Acc l ks).1, .int .i64 (gatherC Came.Acc l ks).2]) := by
  have h := s53 l ks false
  rw [show fldC false = Came.Acc from rfl] at h
  refine spec_of_good mixed Try.func24 F24_ok (by kernel_rfl) ?_
  refine good_run 10 (obs := []) (by kernel_rfl) trivial ?_
  refine good_call (c := True) (by kernel_rfl) (fun _ => SVles.refl _) (fun _ => h) (by kernel_rfl) ?_
  refine good_run 7 (obs := []) (by kernel_rfl) trivial ?_
  refine good_fin [List.length (gatherC Came.Acc l ks).fst = List.length (gatherC Came.Acc l ks).fst ∧ ∀ (i : Nat), i < List.length (gatherC Came.Acc l ks).fst → (fun i => [SV.int IntKind.i64 (List.getD (gatherC Came.Acc l ks).fst i (0 : Int))]) i = (fun i => [SV.int IntKind.i64 (List.getD (gatherC Came.Acc l ks).fst i (0 : Int))]) i, (gatherC Came.Acc l ks).snd = (gatherC Came.Acc l ks).snd] (by kernel_rfl) ⟨⟨rfl, fun _ _ => rfl⟩, rfl, trivial⟩
theorem s26 (l : List Came) (ks : List Int) : Spec Try.prog 26 [cames l, ints ks] (.tup [ints (gatherC Came.Office l ks).1, .int .i64 (gatherC Came.Office l ks).2]) := by
  have h := s53 l ks true
  rw [show fldC true = Came.Office from rfl] at h
  refine spec_of_good mixed Try.func26 F26_ok (by kernel_rfl) ?_
  refine good_run 10 (obs := []) (by kernel_rfl) trivial ?_
  refine good_call (c := True) (by kernel_rfl) (fun _ => SVles.refl _) (fun _ => h) (by kernel_rfl) ?_
  refine good_run 7 (obs := []) (by kernel_rfl) trivial ?_
  refine good_fin [List.length (gatherC Came.Office l ks).fst = List.length (gatherC Came.Office l ks).fst ∧ ∀ (i : Nat), i < List.length (gatherC Came.Office l ks).fst → (fun i => [SV.int IntKind.i64 (List.getD (gatherC Came.Office l ks).fst i (0 : Int))]) i = (fun i => [SV.int IntKind.i64 (List.getD (gatherC Came.Office l ks).fst i (0 : Int))]) i, (gatherC Came.Office l ks).snd = (gatherC Came.Office l ks).snd] (by kernel_rfl) ⟨⟨rfl, fun _ _ => rfl⟩, rfl, trivial⟩
end Go.Sx.T
