/- Contracts of functions of the program, each proved by running its code symbolically (CE). -/
import Derived.Test.YteecckjnbeambaaCD
namespace Go.Sx.T
open Go Go.Proofs Go.Sx
set_option maxRecDepth 100000
set_option maxHeartbeats 4000000
set_option linter.unusedVariables false
set_option linter.unusedSimpArgs false
def cmpDay (d : Int) (m : Move) : Int := if m.Day ≤ d then -1 else 1
theorem s51 (m : Move) (d : Int) : Spec Try.prog 51 [m.sv, .int .i64 d] (.int .i64 (cmpDay d m)) := by
  refine spec_of_good mixed Try.func51 F51_ok (by kernel_rfl) ?_
  refine good_run 15 (obs := []) (by kernel_rfl) trivial ?_
  refine good_cond (decide (m.Day ≤ d)) (by kernel_rfl) (fun hc1 => ?_) (fun hc1 => ?_)
  · simp only [decide_eq_true_eq] at hc1
    rw [cmpDay, if_pos hc1]
    refine good_run 7 (obs := []) (by kernel_rfl) trivial ?_
    refine good_fin [(-1 : Int) = (-1 : Int)] (by kernel_rfl) ⟨rfl, trivial⟩
  · simp only [decide_eq_false_iff_not] at hc1
    rw [cmpDay, if_neg hc1]
    refine good_run 7 (obs := []) (by kernel_rfl) trivial ?_
    refine good_fin [(1 : Int) = (1 : Int)] (by kernel_rfl) ⟨rfl, trivial⟩
/-- A search in a list at whose first k elements the comparison says 'less', and at no other. -/
theorem s50 (l : List Move) (x : Int) (f : FuncId) (caps : List SV) (c : Move → Int) (h : ∀ p : Move, Spec Try.prog f (Move.sv p :: .int .i64 x :: caps) (.int .i64 (c p))) (k : Nat) (hk : k ≤ l.length) (hl : l.length ≤ 100000) (h1 : ∀ j, j < k → c (l.getD j default) < 0) (h2 : ∀ j, k ≤ j → j < l.length → 0 ≤ c (l.getD j default)) :
    Spec Try.prog 50 [moves l, .int .i64 x, .fn f caps] (.tup [.int .i64 k, .bool (decide ((k : Int) < l.length) && decide (c (l.getD k default) = 0))]) := by
  refine spec_of_good mixed Try.func50 F50_ok (by kernel_rfl) ?_
  have hu1 : IntKind.u64.min = 0 := rfl
  have hu2 : IntKind.u64.max = 18446744073709551615 := rfl
  have hu3 : IntKind.u64.bits = 64 := rfl
  refine good_run 22 (obs := []) (by kernel_rfl) trivial ?_
  refine good_loopJ (fun q : Nat × Nat => ⟨[(9, .sv (.int .i64 (q.1))), (10, .sv (.int .i64 (q.2))), (8, LV.sv (SV.int IntKind.i64 (↑(List.length l) : Int))), (0, LV.sv (SV.lst (6 : Nat) (List.length l) fun i => Move.cells (List.getD l i default))), (1, LV.sv (SV.int IntKind.i64 x)), (2, LV.sv (SV.fn f caps))], []⟩) (fun q => q.1 ≤ k ∧ k ≤ q.2 ∧ q.2 ≤ l.length) (fun q => q.2 - q.1) ((0, l.length)) [(0 : Int) = (0 : Int), (↑(List.length l) : Int) = (↑(List.length l) : Int), (↑(List.length l) : Int) = (↑(List.length l) : Int), List.length l = List.length l ∧ ∀ (i : Nat), i < List.length l → (fun i => Move.cells (List.getD l i default)) i = (fun i => Move.cells (List.getD l i default)) i, x = x, SVle (SV.fn f caps) (SV.fn f caps)] (by kernel_rfl) (by kernel_rfl) ⟨rfl, rfl, rfl, ⟨rfl, fun _ _ => rfl⟩, rfl, SVle.refl _, trivial⟩ (by omega) ?_
  rintro ⟨i, j⟩ ⟨hi, hj, hn⟩
  simp only at hi hj hn
  refine good_run 8 (obs := []) (by kernel_rfl) trivial ?_
  refine good_cond (decide ((↑i : Int) < (↑j : Int))) (by kernel_rfl) (fun hc1 => ?_) (fun hc1 => ?_)
  · have hij : i < j := by simp only [decide_eq_true_eq] at hc1; omega
    have e2 : (((i : Int) + j) / 2 ^ 1).toNat = (i + j) / 2 := by omega
    refine good_run 21 (obs := [InK IntKind.i64 ((↑i : Int) + (↑j : Int)), InK IntKind.u64 ((↑i : Int) + (↑j : Int)), (0 : Int) ≤ (1 : Int) ∧ (1 : Nat) ≤ IntKind.bits IntKind.u64, InK IntKind.i64 (((↑i : Int) + (↑j : Int)) / (2 : Int) ^ (1 : Nat)), (6 : Nat) = (6 : Nat) ∧ (0 : Int) ≤ ((↑i : Int) + (↑j : Int)) / (2 : Int) ^ (1 : Nat) ∧ ((↑i : Int) + (↑j : Int)) / (2 : Int) ^ (1 : Nat) < (↑(List.length l) : Int), (0 : Nat) + (6 : Nat) ≤ (6 : Nat)]) (by kernel_rfl) (by (first | omega | assumption | exact ⟨rfl, trivial⟩ | exact ⟨rfl, rfl, trivial⟩ | exact ⟨rfl, rfl, rfl, rfl, rfl, trivial⟩ | simp only [AllP, inK_iff, roomOK_iff, decide_eq_true_eq, Bool.and_eq_true, Bool.or_eq_true, Bool.not_eq_true', decide_eq_false_iff_not, and_true, true_and]; (first | omega | (and_intros <;> intros <;> (try and_intros) <;> first | omega | assumption | exact trivial)))) ?_
    refine good_call (c := True) (by kernel_rfl) (fun _ => SVles.refl _) (fun _ => h (l.getD (((i : Int) + j) / 2 ^ 1).toNat default)) (by kernel_rfl) ?_
    refine good_run 3 (obs := []) (by kernel_rfl) trivial ?_
    refine good_cond (decide (c (List.getD l (Int.toNat (((↑i : Int) + (↑j : Int)) / (2 : Int) ^ (1 : Nat))) default) < (0 : Int))) (by kernel_rfl) (fun hc2 => ?_) (fun hc2 => ?_)
    · have : (i + j) / 2 < k := by
        refine Nat.lt_of_not_le fun hk' => ?_
        have := h2 _ hk' (by omega)
        simp only [decide_eq_true_eq, e2] at hc2; omega
      refine good_run 7 (obs := [InK IntKind.i64 (((↑i : Int) + (↑j : Int)) / (2 : Int) ^ (1 : Nat) + (1 : Int))]) (by kernel_rfl) (by (first | omega | assumption | exact ⟨rfl, trivial⟩ | exact ⟨rfl, rfl, trivial⟩ | exact ⟨rfl, rfl, rfl, rfl, rfl, trivial⟩ | simp only [AllP, inK_iff, roomOK_iff, decide_eq_true_eq, Bool.and_eq_true, Bool.or_eq_true, Bool.not_eq_true', decide_eq_false_iff_not, and_true, true_and]; (first | omega | (and_intros <;> intros <;> (try and_intros) <;> first | omega | assumption | exact trivial)))) ?_
      refine good_backJ (((i + j) / 2 + 1, j)) [((↑i : Int) + (↑j : Int)) / (2 : Int) ^ (1 : Nat) + (1 : Int) = (↑((i + j) / (2 : Nat) + (1 : Nat)) : Int), (↑j : Int) = (↑j : Int), (↑(List.length l) : Int) = (↑(List.length l) : Int), List.length l = List.length l ∧ ∀ (i : Nat), i < List.length l → (fun i => Move.cells (List.getD l i default)) i = (fun i => Move.cells (List.getD l i default)) i, x = x, SVle (SV.fn f caps) (SV.fn f caps)] (by kernel_rfl) (by kernel_rfl) ⟨(by omega), rfl, rfl, ⟨rfl, fun _ _ => rfl⟩, rfl, SVle.refl _, trivial⟩ (by omega) (by show _ < _; omega)
    · have : k ≤ (i + j) / 2 := by
        refine Nat.le_of_not_lt fun hk' => ?_
        have := h1 _ hk'
        simp only [decide_eq_false_iff_not, e2] at hc2; omega
      refine good_run 6 (obs := []) (by kernel_rfl) trivial ?_
      refine good_backJ ((i, (i + j) / 2)) [(↑i : Int) = (↑i : Int), ((↑i : Int) + (↑j : Int)) / (2 : Int) ^ (1 : Nat) = (↑((i + j) / (2 : Nat)) : Int), (↑(List.length l) : Int) = (↑(List.length l) : Int), List.length l = List.length l ∧ ∀ (i : Nat), i < List.length l → (fun i => Move.cells (List.getD l i default)) i = (fun i => Move.cells (List.getD l i default)) i, x = x, SVle (SV.fn f caps) (SV.fn f caps)] (by kernel_rfl) (by kernel_rfl) ⟨rfl, (by omega), rfl, ⟨rfl, fun _ _ => rfl⟩, rfl, SVle.refl _, trivial⟩ (by omega) (by show _ < _; omega)
  · have : i = k := by simp only [decide_eq_false_iff_not] at hc1; omega
    subst this
    refine good_run 2 (obs := []) (by kernel_rfl) trivial ?_
    refine good_leaveJ (by kernel_rfl) ?_
    refine good_run 15 (obs := [decide ((↑i : Int) < (↑(List.length l) : Int)) = true ∧ True → (6 : Nat) = (6 : Nat) ∧ (0 : Int) ≤ (↑i : Int) ∧ (↑i : Int) < (↑(List.length l) : Int), decide ((↑i : Int) < (↑(List.length l) : Int)) = true ∧ True → (0 : Nat) + (6 : Nat) ≤ (6 : Nat)]) (by kernel_rfl) (by (first | omega | assumption | exact ⟨rfl, trivial⟩ | exact ⟨rfl, rfl, trivial⟩ | exact ⟨rfl, rfl, rfl, rfl, rfl, trivial⟩ | simp only [AllP, inK_iff, roomOK_iff, decide_eq_true_eq, Bool.and_eq_true, Bool.or_eq_true, Bool.not_eq_true', decide_eq_false_iff_not, and_true, true_and]; (first | omega | (and_intros <;> intros <;> (try and_intros) <;> first | omega | assumption | exact trivial)))) ?_
    refine good_call (c := decide ((↑i : Int) < (↑(List.length l) : Int)) = true ∧ True) (by kernel_rfl) (fun _ => SVles.refl _) (fun _ => h (l.getD i default)) (by kernel_rfl) ?_
    refine good_run 8 (obs := []) (by kernel_rfl) trivial ?_
    refine good_fin [(↑i : Int) = (↑i : Int), (decide ((↑i : Int) < (↑(List.length l) : Int)) && decide (c (List.getD l i default) = (0 : Int))) = (decide ((↑i : Int) < (↑(List.length l) : Int)) && decide (c (List.getD l i default) = (0 : Int)))] (by kernel_rfl) ⟨rfl, rfl, trivial⟩
end Go.Sx.T
