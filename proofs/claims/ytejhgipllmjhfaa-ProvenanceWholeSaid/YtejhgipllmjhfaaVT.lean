/- Contracts of functions of the program, each proved by running its code symbolically (VT). -/
import Derived.Test.YtejhgipllmjhfaaVR
import Derived.Test.YtejhgipllmjhfaaVH
namespace Go.Sx.T
open Go Go.Proofs Go.Sx
set_option maxRecDepth 100000
set_option maxHeartbeats 4000000
set_option linter.unusedVariables false
set_option linter.unusedSimpArgs false
def awL : List Came := [⟨4, 2, 9, 3⟩, ⟨5, 2, 9, 1⟩]
def awC : Came := ⟨6, 2, 0, 0⟩
def awM : List Came := [⟨4, 2, 9, 3⟩, ⟨5, 2, 9, 1⟩, ⟨6, 2, 0, 0⟩]
theorem aw_add : addC awL awC = (awM, 0) := by decide +kernel
theorem aw_sort : sortN (ownL awM 9) = [⟨5, 2, 9, 1⟩, ⟨4, 2, 9, 3⟩] := by
  have hne : (ownL awM 9).Pairwise fun x y => x.Num ≠ y.Num := by decide +kernel
  refine rise_eqK Came.Num (sort_strict hne) (by decide +kernel) fun x => ?_
  rw [(sortN_perm _).mem_iff]
  show x ∈ [(⟨4, 2, 9, 3⟩ : Came), ⟨5, 2, 9, 1⟩] ↔ _
  simp only [List.mem_cons, List.not_mem_nil, or_false]
  exact Or.comm
theorem aw_check : checkC awM = (-1, 0) := by decide +kernel
theorem aw_order : orderC awM 9 = ([5, 4], 0) := by
  rw [orderC, if_neg (by rw [aw_check]; decide), if_neg (by decide +kernel), aw_sort]
  rfl
theorem aw_acc : gatherC Came.Acc awM [4, 6] = ([9], 0) := by decide +kernel
theorem aw_off : gatherC Came.Office awM [4, 6] = ([2], 0) := by
  rw [gatherC, if_neg (by rw [aw_check]; decide), if_neg (by decide), compact_eq]
  decide +kernel
theorem aw_comp : completeC awM 9 [1, 2, 3] = ([2], [], 0) := by decide +kernel
theorem aw_of : ofC awM 5 = (⟨5, 2, 9, 1⟩, true) := by decide +kernel
theorem s10 : Spec Try.prog 10 [] (.bool true) := by
  have hr := (right_iff awM).1 (by rw [aw_check])
  have q17 := s17 awL awC
  rw [aw_add] at q17
  have q20 := s20 awM 9
  rw [aw_order] at q20
  have q22 := s22 awM [4, 6]
  rw [aw_acc] at q22
  have q25 := s25 awM [4, 6]
  rw [aw_off] at q25
  have q28 := s28 awM 9 [1, 2, 3] (by decide)
  rw [aw_comp] at q28
  have q15 := s15 awM 5
  rw [aw_of] at q15
  have q12 := s12 awM
  rw [aw_check] at q12
  dsimp only at q17 q20 q22 q25 q28 q15 q12
  have c1 := s27 [5, 4] [5, 4]
  have c2 := s27 [9] [9]
  have c3 := s27 [2] [2]
  refine spec_of_good mixed Try.func10 F10_ok (by kernel_rfl) ?_
  refine good_run 20 (obs := []) (by kernel_rfl) trivial ?_
  refine good_call (args := [SV.lst (4 : Nat) (2 : Nat) (cutRows (4 : Nat) [SV.int IntKind.i64 (4 : Int), SV.int IntKind.i64 (2 : Int), SV.int IntKind.i64 (9 : Int), SV.int IntKind.i64 (3 : Int), SV.int IntKind.i64 (5 : Int), SV.int IntKind.i64 (2 : Int), SV.int IntKind.i64 (9 : Int), SV.int IntKind.i64 (1 : Int)]), SV.agg [SV.int IntKind.i64 (6 : Int), SV.int IntKind.i64 (2 : Int), SV.val (Value.int IntKind.i64 (Int.ofNat (0 : Nat))), SV.val (Value.int IntKind.i64 (Int.ofNat (0 : Nat)))]]) (c := True) (by kernel_rfl) (fun _ => show SVles _ [cames awL, awC.sv] from ⟨svle_lst rfl fun i hi => (match i, hi with | 0, _ => SVles.refl _ | 1, _ => SVles.refl _ | i + 2, h => absurd h (by omega)), svle_agg ⟨SVle.refl _, SVle.refl _, svle_val_int _ _, svle_val_int _ _, trivial⟩, trivial⟩) (fun _ => q17) (by kernel_rfl) ?_
  refine good_run 10 (obs := []) (by kernel_rfl) trivial ?_
  refine good_call (c := True) (by kernel_rfl) (fun _ => SVles.refl _) (fun _ => q20) (by kernel_rfl) ?_
  refine good_run 11 (obs := []) (by kernel_rfl) trivial ?_
  refine good_call (args := [SV.lst (4 : Nat) (3 : Nat) fun i => Came.cells (List.getD awM i default), SV.lst (1 : Nat) (2 : Nat) (cutRows (1 : Nat) [SV.int IntKind.i64 (4 : Int), SV.int IntKind.i64 (6 : Int)])]) (c := True) (by kernel_rfl) (fun _ => show SVles _ [cames awM, ints [4, 6]] from ⟨SVle.refl _, svle_lst rfl fun i hi => (match i, hi with | 0, _ => SVles.refl _ | 1, _ => SVles.refl _ | i + 2, h => absurd h (by omega)), trivial⟩) (fun _ => q22) (by kernel_rfl) ?_
  refine good_run 11 (obs := []) (by kernel_rfl) trivial ?_
  refine good_call (args := [SV.lst (4 : Nat) (3 : Nat) fun i => Came.cells (List.getD awM i default), SV.lst (1 : Nat) (2 : Nat) (cutRows (1 : Nat) [SV.int IntKind.i64 (4 : Int), SV.int IntKind.i64 (6 : Int)])]) (c := True) (by kernel_rfl) (fun _ => show SVles _ [cames awM, ints [4, 6]] from ⟨SVle.refl _, svle_lst rfl fun i hi => (match i, hi with | 0, _ => SVles.refl _ | 1, _ => SVles.refl _ | i + 2, h => absurd h (by omega)), trivial⟩) (fun _ => q25) (by kernel_rfl) ?_
  refine good_run 11 (obs := []) (by kernel_rfl) trivial ?_
  refine good_call (args := [SV.lst (4 : Nat) (3 : Nat) fun i => Came.cells (List.getD awM i default), SV.int IntKind.i64 (9 : Int), SV.lst (1 : Nat) (3 : Nat) (cutRows (1 : Nat) [SV.int IntKind.i64 (1 : Int), SV.int IntKind.i64 (2 : Int), SV.int IntKind.i64 (3 : Int)])]) (c := True) (by kernel_rfl) (fun _ => show SVles _ [cames awM, .int .i64 9, ints [1, 2, 3]] from ⟨SVle.refl _, SVle.refl _, svle_lst rfl fun i hi => (match i, hi with | 0, _ => SVles.refl _ | 1, _ => SVles.refl _ | 2, _ => SVles.refl _ | i + 3, h => absurd h (by omega)), trivial⟩) (fun _ => q28) (by kernel_rfl) ?_
  refine good_run 12 (obs := []) (by kernel_rfl) trivial ?_
  refine good_call (c := True) (by kernel_rfl) (fun _ => SVles.refl _) (fun _ => q15) (by kernel_rfl) ?_
  refine good_run 11 (obs := [(3 : Nat) = (3 : Nat) ∧ (0 : Nat) + (3 : Nat) ≤ (3 : Nat)]) (by kernel_rfl) (by (first | omega | assumption | exact ⟨rfl, trivial⟩ | simp only [AllP, inK_iff, roomOK_iff, decide_eq_true_eq, Bool.and_eq_true, Bool.or_eq_true, Bool.not_eq_true', decide_eq_false_iff_not, and_true, true_and]; (first | omega | (and_intros <;> intros <;> (try and_intros) <;> first | omega | assumption | exact trivial)))) ?_
  refine good_call (c := True) (by kernel_rfl) (fun _ => SVles.refl _) (fun _ => q12) (by kernel_rfl) ?_
  refine good_run 41 (obs := []) (by kernel_rfl) trivial ?_
  refine good_call (args := [SV.lst (1 : Nat) (2 : Nat) fun i => [SV.int IntKind.i64 (List.getD [(5 : Int), (4 : Int)] i (0 : Int))], SV.lst (1 : Nat) (2 : Nat) (cutRows (1 : Nat) [SV.int IntKind.i64 (5 : Int), SV.int IntKind.i64 (4 : Int)])]) (c := (decide ((0 : Int) = (0 : Int)) && decide ((0 : Int) = (0 : Int)) && decide ((0 : Int) = (0 : Int)) && decide ((0 : Int) = (0 : Int)) && decide ((0 : Int) = (0 : Int)) && decide ((0 : Int) = (0 : Int)) && decide ((-1 : Int) = (-1 : Int))) = true ∧ True) (by kernel_rfl) (fun _ => show SVles _ [ints [5, 4], ints [5, 4]] from ⟨SVle.refl _, svle_lst rfl fun i hi => (match i, hi with | 0, _ => SVles.refl _ | 1, _ => SVles.refl _ | i + 2, h => absurd h (by omega)), trivial⟩) (fun _ => c1) (by kernel_rfl) ?_
  refine good_run 8 (obs := []) (by kernel_rfl) trivial ?_
  refine good_call (args := [SV.lst (1 : Nat) (1 : Nat) fun i => [SV.int IntKind.i64 (List.getD [(9 : Int)] i (0 : Int))], SV.lst (1 : Nat) (1 : Nat) (cutRows (1 : Nat) [SV.int IntKind.i64 (9 : Int)])]) (c := (decide ((0 : Int) = (0 : Int)) && decide ((0 : Int) = (0 : Int)) && decide ((0 : Int) = (0 : Int)) && decide ((0 : Int) = (0 : Int)) && decide ((0 : Int) = (0 : Int)) && decide ((0 : Int) = (0 : Int)) && decide ((-1 : Int) = (-1 : Int)) && decide ([(5 : Int), (4 : Int)] = [(5 : Int), (4 : Int)])) = true ∧ True) (by kernel_rfl) (fun _ => show SVles _ [ints [9], ints [9]] from ⟨SVle.refl _, svle_lst rfl fun i hi => (match i, hi with | 0, _ => SVles.refl _ | i + 1, h => absurd h (by omega)), trivial⟩) (fun _ => c2) (by kernel_rfl) ?_
  refine good_run 8 (obs := []) (by kernel_rfl) trivial ?_
  refine good_call (args := [SV.lst (1 : Nat) (1 : Nat) fun i => [SV.int IntKind.i64 (List.getD [(2 : Int)] i (0 : Int))], SV.lst (1 : Nat) (1 : Nat) (cutRows (1 : Nat) [SV.int IntKind.i64 (2 : Int)])]) (c := (decide ((0 : Int) = (0 : Int)) && decide ((0 : Int) = (0 : Int)) && decide ((0 : Int) = (0 : Int)) && decide ((0 : Int) = (0 : Int)) && decide ((0 : Int) = (0 : Int)) && decide ((0 : Int) = (0 : Int)) && decide ((-1 : Int) = (-1 : Int)) && decide ([(5 : Int), (4 : Int)] = [(5 : Int), (4 : Int)]) && decide ([(9 : Int)] = [(9 : Int)])) = true ∧ True) (by kernel_rfl) (fun _ => show SVles _ [ints [2], ints [2]] from ⟨SVle.refl _, svle_lst rfl fun i hi => (match i, hi with | 0, _ => SVles.refl _ | i + 1, h => absurd h (by omega)), trivial⟩) (fun _ => c3) (by kernel_rfl) ?_
  refine good_run 8 (obs := []) (by kernel_rfl) trivial ?_
  refine good_call (args := [SV.lst (1 : Nat) (1 : Nat) fun i => [SV.int IntKind.i64 (List.getD [(2 : Int)] i (0 : Int))], SV.lst (1 : Nat) (1 : Nat) (cutRows (1 : Nat) [SV.int IntKind.i64 (2 : Int)])]) (c := (decide ((0 : Int) = (0 : Int)) && decide ((0 : Int) = (0 : Int)) && decide ((0 : Int) = (0 : Int)) && decide ((0 : Int) = (0 : Int)) && decide ((0 : Int) = (0 : Int)) && decide ((0 : Int) = (0 : Int)) && decide ((-1 : Int) = (-1 : Int)) && decide ([(5 : Int), (4 : Int)] = [(5 : Int), (4 : Int)]) && decide ([(9 : Int)] = [(9 : Int)]) && decide ([(2 : Int)] = [(2 : Int)])) = true ∧ True) (by kernel_rfl) (fun _ => show SVles _ [ints [2], ints [2]] from ⟨SVle.refl _, svle_lst rfl fun i hi => (match i, hi with | 0, _ => SVles.refl _ | i + 1, h => absurd h (by omega)), trivial⟩) (fun _ => c3) (by kernel_rfl) ?_
  refine good_run 19 (obs := []) (by kernel_rfl) trivial ?_
  refine good_fin [(decide ((0 : Int) = (0 : Int)) && decide ((0 : Int) = (0 : Int)) && decide ((0 : Int) = (0 : Int)) && decide ((0 : Int) = (0 : Int)) && decide ((0 : Int) = (0 : Int)) && decide ((0 : Int) = (0 : Int)) && decide ((-1 : Int) = (-1 : Int)) && decide ([(5 : Int), (4 : Int)] = [(5 : Int), (4 : Int)]) && decide ([(9 : Int)] = [(9 : Int)]) && decide ([(2 : Int)] = [(2 : Int)]) && decide ([(2 : Int)] = [(2 : Int)]) && decide ((0 : Int) = (0 : Int)) && true && decide ((1 : Int) = (1 : Int))) = true] (by kernel_rfl) ⟨(by rfl), trivial⟩
end Go.Sx.T
