/- Contracts of functions of the program, each proved by running its code symbolically (QV). -/
import Derived.Test.YtepkgkdbnoiieaaQU
namespace Go.Sx.T
open Go Go.Proofs Go.Sx
set_option maxRecDepth 100000
set_option maxHeartbeats 8000000
set_option linter.unusedVariables false
set_option linter.unusedSimpArgs false
theorem s17 (l : List Int) (hl : l.length ≤ 100000) : Spec Try.prog 17 [ints l] (.tup [.int .i64 (distL l).1, .int .i64 (distL l).2]) := by
  refine spec_of_good mixed Try.func17 F17_ok (by kernel_rfl) ?_
  have h21 := s21 l hl
  refine good_run 10 (obs := []) (by kernel_rfl) trivial ?_
  refine good_call (c := True) (by kernel_rfl) (fun _ => SVles.refl _) (fun _ => s21 (l) (by (first | omega | assumption | exact ⟨rfl, trivial⟩ | simp only [AllP, inK_iff, roomOK_iff, decide_eq_true_eq, Bool.and_eq_true, Bool.or_eq_true, Bool.not_eq_true', decide_eq_false_iff_not, and_true, true_and]; (first | omega | (and_intros <;> intros <;> (try and_intros) <;> first | omega | assumption | exact trivial))))) (by kernel_rfl) ?_
  refine good_run 9 (obs := []) (by kernel_rfl) trivial ?_
  refine good_cond (!decide (chkL l = (0 : Int))) (by kernel_rfl) (fun hc1 => ?_) (fun hc1 => ?_)
  · have e : distL l = (0, chkL l) := if_neg (by simpa using hc1)
    rw [e]
    refine good_run 9 (obs := []) (by kernel_rfl) trivial ?_
    refine good_fin [(0 : Int) = (0 : Int), chkL l = chkL l] (by kernel_rfl) ⟨rfl, rfl, trivial⟩
  · have hc : chkL l = 0 := by simpa using hc1
    obtain ⟨h1, h2, h3, h4⟩ := chk_pos hc
    have e : distL l = (invR l l.length, 0) := by
      unfold distL
      rw [if_pos hc, invR_all l h2]
    rw [e]
    refine good_run 13 (obs := []) (by kernel_rfl) trivial ?_
    refine good_loopJ (fun i : Nat => ⟨[(6, .sv (.int .i64 (i))), (5, .sv (.int .i64 ((invR l i)))), (0, LV.sv (SV.lst (1 : Nat) (List.length l) fun i => [SV.int IntKind.i64 (List.getD l i (0 : Int))]))], []⟩) (fun i => i ≤ l.length) (fun i => l.length - i) (0) [(0 : Int) = (0 : Int), (0 : Int) = invR l (0 : Nat), List.length l = List.length l ∧ ∀ (i : Nat), i < List.length l → (fun i => [SV.int IntKind.i64 (List.getD l i (0 : Int))]) i = (fun i => [SV.int IntKind.i64 (List.getD l i (0 : Int))]) i] (by kernel_rfl) (by kernel_rfl) ⟨rfl, (by rfl), ⟨rfl, fun _ _ => rfl⟩, trivial⟩ (by omega) ?_
    intro i hi
    have hb := invR_bd l (by omega) i hi
    refine good_run 9 (obs := []) (by kernel_rfl) trivial ?_
    refine good_cond (decide ((↑i : Int) < (↑(List.length l) : Int))) (by kernel_rfl) (fun hc2 => ?_) (fun hc2 => ?_)
    · have hlt : i < l.length := by simp only [decide_eq_true_eq] at hc2; omega
      refine good_run 9 (obs := []) (by kernel_rfl) trivial ?_
      refine good_loopJ (fun k : Nat => ⟨[(7, .sv (.int .i64 (k))), (5, .sv (.int .i64 ((invR l i + cGt (l.getD i 0) (l.take k))))), (6, LV.sv (SV.int IntKind.i64 (↑i : Int))), (0, LV.sv (SV.lst (1 : Nat) (List.length l) fun i => [SV.int IntKind.i64 (List.getD l i (0 : Int))]))], []⟩) (fun k => k ≤ i) (fun k => i - k) (0) [(0 : Int) = (0 : Int), invR l i = invR l i + cGt (List.getD l i (0 : Int)) [], (↑i : Int) = (↑i : Int), List.length l = List.length l ∧ ∀ (i : Nat), i < List.length l → (fun i => [SV.int IntKind.i64 (List.getD l i (0 : Int))]) i = (fun i => [SV.int IntKind.i64 (List.getD l i (0 : Int))]) i] (by kernel_rfl) (by kernel_rfl) ⟨rfl, ?_, rfl, ⟨rfl, fun _ _ => rfl⟩, trivial⟩ (by omega) ?_
      · show invR l i = invR l i + cGt _ (l.take 0); rw [List.take_zero, cGt]; omega
      intro k hk
      have hb2 := cGt_bd (l.getD i 0) (l.take k)
      rw [List.length_take] at hb2
      have hs : k < i → cGt (l.getD i 0) (l.take (k + 1)) = cGt (l.getD i 0) (l.take k) + if l.getD i 0 < l.getD k 0 then 1 else 0 := fun h => by
        rw [take_snoc l k (by omega), cGt_snoc]
      refine good_run 8 (obs := []) (by kernel_rfl) trivial ?_
      refine good_cond (decide ((↑k : Int) < (↑i : Int))) (by kernel_rfl) (fun hc3 => ?_) (fun hc3 => ?_)
      · have hki : k < i := by simp only [decide_eq_true_eq] at hc3; omega
        have hs' := hs hki
        refine good_run 16 (obs := [True → (1 : Nat) = (1 : Nat) ∧ (0 : Int) ≤ (↑k : Int) ∧ (↑k : Int) < (↑(List.length l) : Int), True → (1 : Nat) = (1 : Nat) ∧ (0 : Int) ≤ (↑i : Int) ∧ (↑i : Int) < (↑(List.length l) : Int)]) (by kernel_rfl) (by (first | omega | assumption | exact ⟨rfl, trivial⟩ | simp only [AllP, inK_iff, roomOK_iff, decide_eq_true_eq, Bool.and_eq_true, Bool.or_eq_true, Bool.not_eq_true', decide_eq_false_iff_not, and_true, true_and]; (first | omega | (and_intros <;> intros <;> (try and_intros) <;> first | omega | assumption | exact trivial)))) ?_
        refine good_cond (decide (List.getD l i (0 : Int) < List.getD l k (0 : Int))) (by kernel_rfl) (fun hc4 => ?_) (fun hc4 => ?_)
        · have hg : l.getD i 0 < l.getD k 0 := by simpa using hc4
          rw [if_pos hg] at hs'
          refine good_run 13 (obs := [InK IntKind.i64 (invR l i + cGt (List.getD l i (0 : Int)) (List.take k l) + (1 : Int)), InK IntKind.i64 ((↑k : Int) + (1 : Int))]) (by kernel_rfl) (by (first | omega | assumption | exact ⟨rfl, trivial⟩ | simp only [AllP, inK_iff, roomOK_iff, decide_eq_true_eq, Bool.and_eq_true, Bool.or_eq_true, Bool.not_eq_true', decide_eq_false_iff_not, and_true, true_and]; (first | omega | (and_intros <;> intros <;> (try and_intros) <;> first | omega | assumption | exact trivial)))) ?_
          refine good_backJ (k + 1) [(↑k : Int) + (1 : Int) = (↑(k + (1 : Nat)) : Int), invR l i + cGt (List.getD l i (0 : Int)) (List.take k l) + (1 : Int) = invR l i + cGt (List.getD l i (0 : Int)) (List.take (k + (1 : Nat)) l), (↑i : Int) = (↑i : Int), List.length l = List.length l ∧ ∀ (i : Nat), i < List.length l → (fun i => [SV.int IntKind.i64 (List.getD l i (0 : Int))]) i = (fun i => [SV.int IntKind.i64 (List.getD l i (0 : Int))]) i] (by kernel_rfl) (by kernel_rfl) ⟨(by omega), (by omega), rfl, ⟨rfl, fun _ _ => rfl⟩, trivial⟩ (by omega) (by show _ < _; omega)
        · have hg : ¬ l.getD i 0 < l.getD k 0 := by simpa using hc4
          rw [if_neg hg] at hs'
          refine good_run 8 (obs := [InK IntKind.i64 ((↑k : Int) + (1 : Int))]) (by kernel_rfl) (by (first | omega | assumption | exact ⟨rfl, trivial⟩ | simp only [AllP, inK_iff, roomOK_iff, decide_eq_true_eq, Bool.and_eq_true, Bool.or_eq_true, Bool.not_eq_true', decide_eq_false_iff_not, and_true, true_and]; (first | omega | (and_intros <;> intros <;> (try and_intros) <;> first | omega | assumption | exact trivial)))) ?_
          refine good_backJ (k + 1) [(↑k : Int) + (1 : Int) = (↑(k + (1 : Nat)) : Int), invR l i + cGt (List.getD l i (0 : Int)) (List.take k l) = invR l i + cGt (List.getD l i (0 : Int)) (List.take (k + (1 : Nat)) l), (↑i : Int) = (↑i : Int), List.length l = List.length l ∧ ∀ (i : Nat), i < List.length l → (fun i => [SV.int IntKind.i64 (List.getD l i (0 : Int))]) i = (fun i => [SV.int IntKind.i64 (List.getD l i (0 : Int))]) i] (by kernel_rfl) (by kernel_rfl) ⟨(by omega), (by omega), rfl, ⟨rfl, fun _ _ => rfl⟩, trivial⟩ (by omega) (by show _ < _; omega)
      · have hki : k = i := by simp only [decide_eq_false_iff_not] at hc3; omega
        subst hki
        have hr : invR l (k + 1) = invR l k + cGt (l.getD k 0) (l.take k) := rfl
        refine good_run 2 (obs := []) (by kernel_rfl) trivial ?_
        refine good_leaveJ (by kernel_rfl) ?_
        refine good_run 8 (obs := [InK IntKind.i64 ((↑k : Int) + (1 : Int))]) (by kernel_rfl) (by (first | omega | assumption | exact ⟨rfl, trivial⟩ | simp only [AllP, inK_iff, roomOK_iff, decide_eq_true_eq, Bool.and_eq_true, Bool.or_eq_true, Bool.not_eq_true', decide_eq_false_iff_not, and_true, true_and]; (first | omega | (and_intros <;> intros <;> (try and_intros) <;> first | omega | assumption | exact trivial)))) ?_
        refine good_backJ (k + 1) [(↑k : Int) + (1 : Int) = (↑(k + (1 : Nat)) : Int), invR l k + cGt (List.getD l k (0 : Int)) (List.take k l) = invR l (k + (1 : Nat)), List.length l = List.length l ∧ ∀ (i : Nat), i < List.length l → (fun i => [SV.int IntKind.i64 (List.getD l i (0 : Int))]) i = (fun i => [SV.int IntKind.i64 (List.getD l i (0 : Int))]) i] (by kernel_rfl) (by kernel_rfl) ⟨(by omega), (by omega), ⟨rfl, fun _ _ => rfl⟩, trivial⟩ (by omega) (by show _ < _; omega)
    · have : i = l.length := by simp only [decide_eq_false_iff_not] at hc2; omega
      subst this
      refine good_run 2 (obs := []) (by kernel_rfl) trivial ?_
      refine good_leaveJ (by kernel_rfl) ?_
      refine good_run 9 (obs := []) (by kernel_rfl) trivial ?_
      refine good_fin [invR l (List.length l) = invR l (List.length l), (0 : Int) = (0 : Int)] (by kernel_rfl) ⟨rfl, rfl, trivial⟩
end Go.Sx.T
