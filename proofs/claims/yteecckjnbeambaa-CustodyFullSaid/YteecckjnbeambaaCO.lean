/- Contracts of functions of the program, each proved by running its code symbolically (CO). -/
import Derived.Test.YteecckjnbeambaaCN
namespace Go.Sx.T
open Go Go.Proofs Go.Sx
set_option maxRecDepth 100000
set_option maxHeartbeats 4000000
set_option linter.unusedVariables false
set_option linter.unusedSimpArgs false
def exM : List Move := [⟨5, 3, ⟨0, 0⟩, ⟨1, 8⟩⟩, ⟨9, 3, ⟨1, 8⟩, ⟨3, 2⟩⟩, ⟨9, 3, ⟨3, 2⟩, ⟨1, 8⟩⟩, ⟨20, 3, ⟨1, 8⟩, ⟨4, 0⟩⟩]
theorem s33 : Spec Try.prog 33 [] (moves exM) := by
  refine spec_of_good mixed Try.func33 F33_ok (by kernel_rfl) ?_
  refine good_run 33 (obs := [(2 : Nat) = (2 : Nat) ∧ (0 : Nat) + (2 : Nat) ≤ (2 : Nat), (2 : Nat) = (2 : Nat) ∧ (0 : Nat) + (2 : Nat) ≤ (2 : Nat), (0 : Nat) + (2 : Nat) ≤ (2 : Nat), (0 : Nat) + (2 : Nat) ≤ (2 : Nat), (0 : Nat) + (2 : Nat) ≤ (2 : Nat), (0 : Nat) + (2 : Nat) ≤ (2 : Nat), (0 : Nat) + (2 : Nat) ≤ (2 : Nat), (0 : Nat) + (2 : Nat) ≤ (2 : Nat)]) (by kernel_rfl) (by (first | omega | assumption | exact ⟨rfl, trivial⟩ | exact ⟨rfl, rfl, trivial⟩ | exact ⟨rfl, rfl, rfl, rfl, rfl, trivial⟩ | simp only [AllP, inK_iff, roomOK_iff, decide_eq_true_eq, Bool.and_eq_true, Bool.or_eq_true, Bool.not_eq_true', decide_eq_false_iff_not, and_true, true_and]; (first | omega | (and_intros <;> intros <;> (try and_intros) <;> first | omega | assumption | exact trivial)))) ?_
  refine good_finW (SV.lst (6 : Nat) (4 : Nat) (cutRows (6 : Nat) [SV.int IntKind.i64 (5 : Int), SV.int IntKind.i64 (3 : Int), SV.val (Value.int IntKind.i64 (Int.ofNat (0 : Nat))), SV.val (Value.int IntKind.i64 (Int.ofNat (0 : Nat))), SV.int IntKind.i64 (1 : Int), SV.int IntKind.i64 (8 : Int), SV.int IntKind.i64 (9 : Int), SV.int IntKind.i64 (3 : Int), SV.int IntKind.i64 (1 : Int), SV.int IntKind.i64 (8 : Int), SV.int IntKind.i64 (3 : Int), SV.int IntKind.i64 (2 : Int), SV.int IntKind.i64 (9 : Int), SV.int IntKind.i64 (3 : Int), SV.int IntKind.i64 (3 : Int), SV.int IntKind.i64 (2 : Int), SV.int IntKind.i64 (1 : Int), SV.int IntKind.i64 (8 : Int), SV.int IntKind.i64 (20 : Int), SV.int IntKind.i64 (3 : Int), SV.int IntKind.i64 (1 : Int), SV.int IntKind.i64 (8 : Int), SV.int IntKind.i64 (4 : Int), SV.val (Value.int IntKind.i64 (Int.ofNat (0 : Nat)))])) (by kernel_rfl) ?_
  refine svle_lst rfl fun i hi => ?_
  match i, hi with
  | 0, _ => refine ⟨?_, ?_, ?_, ?_, ?_, ?_, trivial⟩ <;> first | exact SVle.refl _ | exact svle_val_int _ _
  | 1, _ => refine ⟨?_, ?_, ?_, ?_, ?_, ?_, trivial⟩ <;> first | exact SVle.refl _ | exact svle_val_int _ _
  | 2, _ => refine ⟨?_, ?_, ?_, ?_, ?_, ?_, trivial⟩ <;> first | exact SVle.refl _ | exact svle_val_int _ _
  | 3, _ => refine ⟨?_, ?_, ?_, ?_, ?_, ?_, trivial⟩ <;> first | exact SVle.refl _ | exact svle_val_int _ _
  | i + 4, h => exact absurd h (by omega)
def exP : List Place := [⟨0, 0⟩, ⟨1, 8⟩, ⟨4, 0⟩]
def exS : List Span := [⟨0, 5⟩, ⟨5, 20⟩, ⟨20, 1048576⟩]
def exT : Move := ⟨21, 3, ⟨0, 0⟩, ⟨2, 0⟩⟩
theorem ex_where : whereL exM 3 9 = (⟨1, 8⟩, 0) := by decide
theorem ex_stays : staysF exM 3 = (exP, exS, 0) := by decide
theorem ex_append : appendL exM exT = ([], 10) := by decide
theorem ex_at : atL exM ⟨4, 0⟩ 20 = ([3], 0) := by
  have h : isort ((keysL (untilL exM 20)).filter fun k => decide ((⟨4, 0⟩ : Place) = lastP (untilL exM 20) k)) = [3] := isort_of_perm (b := [3]) (by decide) |>.trans (by
    exact List.Perm.eq_of_pairwise (le := (· ≤ ·)) (fun x y _ _ h1 h2 => Int.le_antisymm h1 h2) (isort_sorted [3]) (by decide) (isort_perm [3]))
  unfold atL
  rw [h]
  decide
theorem s18a : Spec Try.prog 18 [moves exM, .int .i64 3, .int .i64 9] (.tup [(⟨1, 8⟩ : Place).sv, .int .i64 0]) := by
  have := s18 exM 3 9
  rwa [ex_where] at this
theorem s20a : Spec Try.prog 20 [moves exM, (⟨4, 0⟩ : Place).sv, .int .i64 20] (.tup [ints [3], .int .i64 0]) := by
  have := s20 exM ⟨4, 0⟩ 20
  rwa [ex_at] at this
theorem s23a : Spec Try.prog 23 [moves exM, .int .i64 3] (.tup [places exP, spans exS, .int .i64 0]) := by
  have := s23 exM 3
  rwa [ex_stays] at this
theorem s12a : Spec Try.prog 12 [moves exM, exT.sv] (.tup [moves [], .int .i64 10]) := by
  have := s12 exM exT
  rwa [ex_append] at this
theorem s22a : Spec Try.prog 22 [ints [3], ints [3]] (.bool true) := s22 [3] [3]
theorem s30a : Spec Try.prog 30 [spans exS, spans exS] (.bool true) := by
  have := s30 exS exS
  simpa using this
theorem s10 : Spec Try.prog 10 [] (.bool true) := by
  refine spec_of_good mixed Try.func10 F10_ok (by kernel_rfl) ?_
  have heq := eq24
  refine good_run 7 (obs := []) (by kernel_rfl) trivial ?_
  refine good_call (c := True) (by kernel_rfl) (fun _ => SVles.refl _) (fun _ => s33) (by kernel_rfl) ?_
  refine good_call (c := True) (by kernel_rfl) (fun _ => SVles.refl _) (fun _ => s18a) (by kernel_rfl) ?_
  refine good_run 10 (obs := [(2 : Nat) = (2 : Nat) ∧ (0 : Nat) + (2 : Nat) ≤ (2 : Nat)]) (by kernel_rfl) (by (first | omega | assumption | exact ⟨rfl, trivial⟩ | exact ⟨rfl, rfl, trivial⟩ | exact ⟨rfl, rfl, rfl, rfl, rfl, trivial⟩ | simp only [AllP, inK_iff, roomOK_iff, decide_eq_true_eq, Bool.and_eq_true, Bool.or_eq_true, Bool.not_eq_true', decide_eq_false_iff_not, and_true, true_and]; (first | omega | (and_intros <;> intros <;> (try and_intros) <;> first | omega | assumption | exact trivial)))) ?_
  refine good_call (c := True) (by kernel_rfl) (fun _ => SVles.refl _) (fun _ => s33) (by kernel_rfl) ?_
  refine good_run 1 (obs := []) (by kernel_rfl) trivial ?_
  refine good_call (args := [SV.lst (6 : Nat) (4 : Nat) fun i => Move.cells (List.getD exM i default), SV.agg [SV.int IntKind.i64 (4 : Int), SV.val (Value.int IntKind.i64 (Int.ofNat (0 : Nat)))], SV.int IntKind.i64 (20 : Int)]) (c := True) (by kernel_rfl) (fun _ => show SVles _ [moves exM, (⟨4, 0⟩ : Place).sv, .int .i64 20] from ⟨SVle.refl _, svle_agg ⟨SVle.refl _, svle_val_int _ _, trivial⟩, SVle.refl _, trivial⟩) (fun _ => s20a) (by kernel_rfl) ?_
  refine good_run 9 (obs := []) (by kernel_rfl) trivial ?_
  refine good_call (c := True) (by kernel_rfl) (fun _ => SVles.refl _) (fun _ => s33) (by kernel_rfl) ?_
  refine good_call (c := True) (by kernel_rfl) (fun _ => SVles.refl _) (fun _ => s23a) (by kernel_rfl) ?_
  refine good_run 11 (obs := []) (by kernel_rfl) trivial ?_
  refine good_call (c := True) (by kernel_rfl) (fun _ => SVles.refl _) (fun _ => s33) (by kernel_rfl) ?_
  refine good_run 2 (obs := []) (by kernel_rfl) trivial ?_
  refine good_call (args := [SV.lst (6 : Nat) (4 : Nat) fun i => Move.cells (List.getD exM i default), SV.agg [SV.int IntKind.i64 (21 : Int), SV.int IntKind.i64 (3 : Int), SV.val (Value.int IntKind.i64 (Int.ofNat (0 : Nat))), SV.val (Value.int IntKind.i64 (Int.ofNat (0 : Nat))), SV.int IntKind.i64 (2 : Int), SV.val (Value.int IntKind.i64 (Int.ofNat (0 : Nat)))]]) (c := True) (by kernel_rfl) (fun _ => show SVles _ [moves exM, exT.sv] from ⟨SVle.refl _, svle_agg ⟨SVle.refl _, SVle.refl _, svle_val_int _ _, svle_val_int _ _, SVle.refl _, svle_val_int _ _, trivial⟩, trivial⟩) (fun _ => s12a) (by kernel_rfl) ?_
  refine good_run 18 (obs := [(0 : Nat) + (2 : Nat) ≤ (2 : Nat), EqOK Try.prog (24 : TypeId) (2 : Nat) ∧ (2 : Nat) = (2 : Nat)]) (by kernel_rfl) (by (first | omega | assumption | exact ⟨rfl, trivial⟩ | exact ⟨rfl, rfl, trivial⟩ | exact ⟨rfl, rfl, rfl, rfl, rfl, trivial⟩ | simp only [AllP, inK_iff, roomOK_iff, decide_eq_true_eq, Bool.and_eq_true, Bool.or_eq_true, Bool.not_eq_true', decide_eq_false_iff_not, and_true, true_and]; (first | omega | (and_intros <;> intros <;> (try and_intros) <;> first | omega | assumption | exact trivial)))) ?_
  refine good_call (args := [SV.lst (1 : Nat) (1 : Nat) fun i => [SV.int IntKind.i64 (List.getD [(3 : Int)] i (0 : Int))], SV.lst (1 : Nat) (1 : Nat) (cutRows (1 : Nat) [SV.int IntKind.i64 (3 : Int)])]) (c := (false ^^ decide ([(1 : Int), (8 : Int)] = [(1 : Int), (8 : Int)])) = true ∧ True) (by kernel_rfl) (fun _ => show SVles _ [ints [3], ints [3]] from ⟨SVle.refl _, svle_lst rfl fun i hi => (match i, hi with | 0, _ => ⟨SVle.refl _, trivial⟩ | i + 1, h => absurd h (by omega)), trivial⟩) (fun _ => s22a) (by kernel_rfl) ?_
  refine good_run 16 (obs := []) (by kernel_rfl) trivial ?_
  refine good_call (args := [SV.lst (2 : Nat) (3 : Nat) fun i => Span.cells (List.getD exS i default), SV.lst (2 : Nat) (3 : Nat) (cutRows (2 : Nat) [SV.val (Value.int IntKind.i64 (Int.ofNat (0 : Nat))), SV.int IntKind.i64 (5 : Int), SV.int IntKind.i64 (5 : Int), SV.int IntKind.i64 (20 : Int), SV.int IntKind.i64 (20 : Int), SV.int IntKind.i64 (1048576 : Int)])]) (c := ((false ^^ decide ([(1 : Int), (8 : Int)] = [(1 : Int), (8 : Int)])) && true && decide ((3 : Int) = (3 : Int))) = true ∧ True) (by kernel_rfl) (fun _ => show SVles _ [spans exS, spans exS] from ⟨SVle.refl _, svle_lst rfl fun i hi => (match i, hi with | 0, _ => ⟨svle_val_int _ _, SVle.refl _, trivial⟩ | 1, _ => ⟨SVle.refl _, SVle.refl _, trivial⟩ | 2, _ => ⟨SVle.refl _, SVle.refl _, trivial⟩ | i + 3, h => absurd h (by omega)), trivial⟩) (fun _ => s30a) (by kernel_rfl) ?_
  refine good_run 18 (obs := [((false ^^ decide ([(1 : Int), (8 : Int)] = [(1 : Int), (8 : Int)])) && true && decide ((3 : Int) = (3 : Int)) && true && decide ((10 : Int) = (10 : Int))) = true ∧ True → InK IntKind.i64 ((0 : Int) + (0 : Int)), ((false ^^ decide ([(1 : Int), (8 : Int)] = [(1 : Int), (8 : Int)])) && true && decide ((3 : Int) = (3 : Int)) && true && decide ((10 : Int) = (10 : Int))) = true ∧ True → InK IntKind.i64 ((0 : Int) + (0 : Int) + (0 : Int))]) (by kernel_rfl) (by (first | omega | assumption | exact ⟨rfl, trivial⟩ | exact ⟨rfl, rfl, trivial⟩ | exact ⟨rfl, rfl, rfl, rfl, rfl, trivial⟩ | simp only [AllP, inK_iff, roomOK_iff, decide_eq_true_eq, Bool.and_eq_true, Bool.or_eq_true, Bool.not_eq_true', decide_eq_false_iff_not, and_true, true_and]; (first | omega | (and_intros <;> intros <;> (try and_intros) <;> first | omega | assumption | exact trivial)))) ?_
  refine good_fin [((false ^^ decide ([(1 : Int), (8 : Int)] = [(1 : Int), (8 : Int)])) && true && decide ((3 : Int) = (3 : Int)) && true && decide ((10 : Int) = (10 : Int)) && decide ((0 : Int) + (0 : Int) + (0 : Int) = (0 : Int))) = true] (by kernel_rfl) ⟨(by rfl), trivial⟩
end Go.Sx.T
