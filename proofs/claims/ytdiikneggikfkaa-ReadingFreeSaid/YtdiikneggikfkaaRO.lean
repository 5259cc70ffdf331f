/- Contracts of functions of the program, each proved by running its code symbolically (RO). -/
import Derived.Test.YtdiikneggikfkaaRM
namespace Go.Sx.T
open Go Go.Proofs Go.Sx
set_option maxRecDepth 100000
set_option maxHeartbeats 4000000
set_option linter.unusedVariables false
set_option linter.unusedSimpArgs false
def exB : List Bk := [⟨1, 1, 0, 5⟩, ⟨2, 2, 3, 8⟩]
theorem s27 : Spec Try.prog 27 [] (bks exB) := by
  refine spec_of_good mixed Try.func27 F27_ok (by kernel_rfl) ?_
  refine good_run 16 (obs := []) (by kernel_rfl) trivial ?_
  refine good_finW (SV.lst (4 : Nat) (2 : Nat) (cutRows (4 : Nat) [SV.int IntKind.i64 (1 : Int), SV.int IntKind.i64 (1 : Int), SV.val (Value.int IntKind.i64 (Int.ofNat (0 : Nat))), SV.int IntKind.i64 (5 : Int), SV.int IntKind.i64 (2 : Int), SV.int IntKind.i64 (2 : Int), SV.int IntKind.i64 (3 : Int), SV.int IntKind.i64 (8 : Int)])) (by kernel_rfl) ?_
  refine svle_lst rfl fun i hi => ?_
  match i, hi with
  | 0, _ => refine ⟨?_, ?_, ?_, ?_, trivial⟩ <;> first | exact SVle.refl _ | exact svle_val_int _ _
  | 1, _ => refine ⟨?_, ?_, ?_, ?_, trivial⟩ <;> first | exact SVle.refl _ | exact svle_val_int _ _
  | i + 2, h => exact absurd h (by omega)
theorem ex_peak : peakL exB = (3, 2) := by decide
theorem ex_right : Right 2 exB := right_iff.1 (by decide)
theorem isort_is {a b : List Int} (h : a.Perm b) (hb : b.Pairwise (· ≤ ·)) : isort a = b :=
  List.Perm.eq_of_pairwise (le := (· ≤ ·)) (fun x y _ _ h1 h2 => Int.le_antisymm h1 h2) (isort_sorted a) hb ((isort_perm a).trans h)
theorem ex_free1 : freeD 2 exB 3 1 2 = (1, 0) := by
  unfold freeD
  rw [isort_is (b := [1, 5, 8]) (by decide) (by decide)]
  decide
theorem ex_free2 : freeD 2 exB 3 2 2 = (5, 0) := by
  unfold freeD
  rw [isort_is (b := [2, 5, 8]) (by decide) (by decide)]
  decide
theorem ex_admit : admitL 2 exB ⟨3, 3, 4, 6⟩ = ([], 12) := by decide
def exC : List Bk := [⟨1, 1, 0, 5⟩, ⟨2, 2, 3, 4⟩]
theorem ex_cancel : cancelL 2 exB 2 4 = (exC, 0) := by decide
theorem exC_len : exC.length = 2 := rfl
theorem exC_until : (exC.getD 1 default).U = 4 := rfl
theorem ex_ord : ordL exB = [0, 1] := by
  refine List.Perm.eq_of_pairwise (le := fun i j => leB exB i j = true) (fun x y hx hy h1 h2 => ?_) (ordL_sorted exB) (by decide) ((ordL_perm exB).trans (by decide))
  have hx2 : x < 2 := List.mem_range.1 ((ordL_perm exB).mem_iff.1 hx)
  have hy2 : y < 2 := by simp at hy; omega
  match x, y, hx2, hy2 with
  | 0, 0, _, _ => rfl
  | 1, 1, _, _ => rfl
  | 0, 1, _, _ => exact absurd h2 (by decide)
  | 1, 0, _, _ => exact absurd h1 (by decide)
theorem ex_seats : seatingL 2 exB = ([0, 1], 0) := by
  have h : checkL 2 exB = 0 := right_iff.2 ex_right
  unfold seatingL
  rw [if_neg (by rw [h]; decide)]
  have : seatsL exB = [0, 1] := by
    show outL exB 2 = [0, 1]
    unfold outL outL outL freeSeat
    simp only [takenB, ex_ord]
    decide
  rw [this]
theorem s11a : Spec Try.prog 11 [bks exB] (.tup [.int .i64 3, .int .i64 2]) := by
  have := s11 exB (by decide)
  rwa [ex_peak] at this
theorem s25a : Spec Try.prog 25 [.int .i64 2, bks exB, .agg [.int .i64 3, .int .i64 1, .int .i64 2]] (.tup [.int .i64 1, .int .i64 0]) := by
  have := s25 2 exB 3 1 2
  rwa [ex_free1] at this
theorem s25b : Spec Try.prog 25 [.int .i64 2, bks exB, .agg [.int .i64 3, .int .i64 2, .int .i64 2]] (.tup [.int .i64 5, .int .i64 0]) := by
  have := s25 2 exB 3 2 2
  rwa [ex_free2] at this
theorem s18a : Spec Try.prog 18 [.int .i64 2, bks exB, .agg [.int .i64 3, .int .i64 3, .int .i64 4, .int .i64 6]] (.tup [bks [], .int .i64 12]) := by
  have := s18 2 exB ⟨3, 3, 4, 6⟩
  rwa [ex_admit] at this
theorem s23a : Spec Try.prog 23 [.int .i64 2, bks exB] (.tup [ints [0, 1], .int .i64 0]) := by
  have := s23 2 exB
  rwa [ex_seats] at this
theorem s20a : Spec Try.prog 20 [.int .i64 2, bks exB, .int .i64 2, .int .i64 4] (.tup [bks exC, .int .i64 0]) := by
  have := s20 2 exB 2 4
  rwa [ex_cancel] at this
theorem s28a : Spec Try.prog 28 [ints [0, 1], ints [0, 1]] (.bool true) := s28 [0, 1] [0, 1]
theorem ints01 (g : Nat → List SV) (h0 : SVles (g 0) [.int .i64 0]) (h1 : SVles (g 1) [.int .i64 1]) : SVle (.lst 1 2 g) (ints [0, 1]) :=
  svle_lst rfl fun i hi => match i, hi with
    | 0, _ => h0
    | 1, _ => h1
    | i + 2, h => absurd h (by omega)
theorem s9 : Spec Try.prog 9 [] (.bool true) := by
  refine spec_of_good mixed Try.func9 F9_ok (by kernel_rfl) ?_
  refine good_run 7 (obs := []) (by kernel_rfl) trivial ?_
  refine good_call (c := True) (by kernel_rfl) (fun _ => SVles.refl _) (fun _ => s27) (by kernel_rfl) ?_
  refine good_call (c := True) (by kernel_rfl) (fun _ => SVles.refl _) (fun _ => s11a) (by kernel_rfl) ?_
  refine good_run 9 (obs := []) (by kernel_rfl) trivial ?_
  refine good_call (c := True) (by kernel_rfl) (fun _ => SVles.refl _) (fun _ => s27) (by kernel_rfl) ?_
  refine good_run 1 (obs := []) (by kernel_rfl) trivial ?_
  refine good_call (c := True) (by kernel_rfl) (fun _ => SVles.refl _) (fun _ => s25a) (by kernel_rfl) ?_
  refine good_run 9 (obs := []) (by kernel_rfl) trivial ?_
  refine good_call (c := True) (by kernel_rfl) (fun _ => SVles.refl _) (fun _ => s27) (by kernel_rfl) ?_
  refine good_run 1 (obs := []) (by kernel_rfl) trivial ?_
  refine good_call (c := True) (by kernel_rfl) (fun _ => SVles.refl _) (fun _ => s25b) (by kernel_rfl) ?_
  refine good_run 9 (obs := []) (by kernel_rfl) trivial ?_
  refine good_call (c := True) (by kernel_rfl) (fun _ => SVles.refl _) (fun _ => s27) (by kernel_rfl) ?_
  refine good_run 2 (obs := []) (by kernel_rfl) trivial ?_
  refine good_call (c := True) (by kernel_rfl) (fun _ => SVles.refl _) (fun _ => s18a) (by kernel_rfl) ?_
  refine good_run 9 (obs := []) (by kernel_rfl) trivial ?_
  refine good_call (c := True) (by kernel_rfl) (fun _ => SVles.refl _) (fun _ => s27) (by kernel_rfl) ?_
  refine good_call (c := True) (by kernel_rfl) (fun _ => SVles.refl _) (fun _ => s23a) (by kernel_rfl) ?_
  refine good_run 9 (obs := []) (by kernel_rfl) trivial ?_
  refine good_call (c := True) (by kernel_rfl) (fun _ => SVles.refl _) (fun _ => s27) (by kernel_rfl) ?_
  refine good_call (c := True) (by kernel_rfl) (fun _ => SVles.refl _) (fun _ => s20a) (by kernel_rfl) ?_
  refine good_run 33 (obs := []) (by kernel_rfl) trivial ?_
  refine good_call (args := [SV.lst (1 : Nat) (2 : Nat) fun i => [SV.int IntKind.i64 (List.getD [(0 : Int), (1 : Int)] i (0 : Int))], SV.lst (1 : Nat) (2 : Nat) (cutRows (1 : Nat) [SV.int IntKind.i64 (0 : Int), SV.int IntKind.i64 (1 : Int)])]) (c := (decide ((3 : Int) = (3 : Int)) && decide ((2 : Int) = (2 : Int)) && decide ((1 : Int) = (1 : Int)) && decide ((5 : Int) = (5 : Int)) && decide ((12 : Int) = (12 : Int))) = true ∧ True) (by kernel_rfl) (fun _ => show SVles _ [ints [0, 1], ints [0, 1]] from ⟨SVle.refl _, ints01 _ ⟨SVle.refl _, trivial⟩ ⟨SVle.refl _, trivial⟩, trivial⟩) (fun _ => s28a) (by kernel_rfl) ?_
  refine good_run 29 (obs := [(decide ((3 : Int) = (3 : Int)) && decide ((2 : Int) = (2 : Int)) && decide ((1 : Int) = (1 : Int)) && decide ((5 : Int) = (5 : Int)) && decide ((12 : Int) = (12 : Int)) && true && decide ((2 : Int) = (2 : Int))) = true ∧ True → (4 : Nat) = (4 : Nat) ∧ (0 : Int) ≤ (1 : Int) ∧ (1 : Int) < (2 : Int), (decide ((3 : Int) = (3 : Int)) && decide ((2 : Int) = (2 : Int)) && decide ((1 : Int) = (1 : Int)) && decide ((5 : Int) = (5 : Int)) && decide ((12 : Int) = (12 : Int)) && true && decide ((2 : Int) = (2 : Int)) && decide ((List.getD exC (1 : Nat) default).U = (4 : Int))) = true ∧ True → InK IntKind.i64 ((0 : Int) + (0 : Int)), (decide ((3 : Int) = (3 : Int)) && decide ((2 : Int) = (2 : Int)) && decide ((1 : Int) = (1 : Int)) && decide ((5 : Int) = (5 : Int)) && decide ((12 : Int) = (12 : Int)) && true && decide ((2 : Int) = (2 : Int)) && decide ((List.getD exC (1 : Nat) default).U = (4 : Int))) = true ∧ True → InK IntKind.i64 ((0 : Int) + (0 : Int) + (0 : Int)), (decide ((3 : Int) = (3 : Int)) && decide ((2 : Int) = (2 : Int)) && decide ((1 : Int) = (1 : Int)) && decide ((5 : Int) = (5 : Int)) && decide ((12 : Int) = (12 : Int)) && true && decide ((2 : Int) = (2 : Int)) && decide ((List.getD exC (1 : Nat) default).U = (4 : Int))) = true ∧ True → InK IntKind.i64 ((0 : Int) + (0 : Int) + (0 : Int) + (0 : Int))]) (by kernel_rfl) (by (first | omega | assumption | exact ⟨rfl, trivial⟩ | simp only [AllP, inK_iff, roomOK_iff, decide_eq_true_eq, Bool.and_eq_true, Bool.or_eq_true, Bool.not_eq_true', decide_eq_false_iff_not, and_true, true_and]; (first | omega | (and_intros <;> intros <;> (try and_intros) <;> first | omega | assumption | exact trivial)))) ?_
  refine good_fin [(decide ((3 : Int) = (3 : Int)) && decide ((2 : Int) = (2 : Int)) && decide ((1 : Int) = (1 : Int)) && decide ((5 : Int) = (5 : Int)) && decide ((12 : Int) = (12 : Int)) && true && decide ((2 : Int) = (2 : Int)) && decide ((List.getD exC (1 : Nat) default).U = (4 : Int)) && decide ((0 : Int) + (0 : Int) + (0 : Int) + (0 : Int) = (0 : Int))) = true] (by kernel_rfl) ⟨(by rfl), trivial⟩
end Go.Sx.T
