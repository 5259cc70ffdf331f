/- Contracts of functions of the program, each proved by running its code symbolically (QR). -/
import Derived.Test.YtepkgkdbnoiieaaQP
namespace Go.Sx.T
open Go Go.Proofs Go.Sx
set_option maxRecDepth 100000
set_option maxHeartbeats 8000000
set_option linter.unusedVariables false
set_option linter.unusedSimpArgs false
theorem isort_of {a b : List Int} (h : a.Perm b) (hs : b.Pairwise (· ≤ ·)) : isort a = b :=
  List.Perm.eq_of_pairwise (le := (· ≤ ·)) (fun x y _ _ h1 h2 => Int.le_antisymm h1 h2) (isort_sorted a) hs ((isort_perm a).trans h)
theorem lit_row (l : List Int) : ∀ i, i < l.length → SVles (cutRows 1 (l.map (SV.int .i64)) i) [.int .i64 (l.getD i 0)] := fun i hi => by
  unfold cutRows
  have e : ((l.map (SV.int .i64)).drop (i * 1)).take 1 = [.int .i64 (l.getD i 0)] := by
    rw [Nat.mul_one, List.drop_eq_getElem_cons (by rw [List.length_map]; exact hi), List.getElem_map, getD_of_lt l i hi]
    rfl
  rw [e]
  exact SVles.refl _
theorem lit_ints (l : List Int) : SVle (.lst 1 l.length (cutRows 1 (l.map (SV.int .i64)))) (ints l) := svle_lst rfl (lit_row l)
def exL : List Int := [3, 1, 2, 5, 4]
def exS : List Int := [1, 2, 3, 4, 5]
def exM : List Shift := [⟨3, 4⟩, ⟨5, 0⟩]
theorem exL_sort : isort exL = exS := isort_of (by decide) (by decide)
theorem exS_sort : isort exS = exS := isort_of (by decide) (by decide)
theorem ex_pres : presL exL = ([1, 2, 4], 0) := by decide +kernel
theorem ex_ms : (msC 5 exL).2 = 3 := by
  simp [exL, msC, mergeC_cons, mergeC_nil, mergeC_nil']
theorem ex_dist : distL exL = (3, 0) := by
  have h : chkL exL = 0 := by decide +kernel
  unfold distL
  rw [if_pos h]
  show ((msC 5 exL).2, 0) = _
  rw [ex_ms]
theorem ex_runs : runL exL = ([1, 3, 1], 0) := by decide +kernel
theorem ex_rest : restL exL = (exM, 0) := by
  have h : chkL exL = 0 := by decide +kernel
  unfold restL
  rw [if_pos h, exL_sort]
  decide +kernel
theorem ex_apply : applyL exL exM = (exS, 0) := by decide +kernel
theorem ex_bet : betL exL exS = (3, 0) := by
  have h : chkL exL = 0 := by decide +kernel
  have h' : chkL exS = 0 := by decide +kernel
  unfold betL
  rw [if_pos h, if_pos h', if_pos (by rw [exL_sort, exS_sort])]
  have e : placesL exL exS = [2, 0, 1, 4, 3] := by decide +kernel
  rw [e]
  show ((msC 5 [2, 0, 1, 4, 3]).2, 0) = _
  simp [msC, mergeC_cons, mergeC_nil, mergeC_nil']
theorem lit_shifts : SVle (.lst 2 2 (cutRows 2 [.int .i64 3, .int .i64 4, .int .i64 5, .val (.int .i64 0)])) (shifts exM) :=
  svle_lst rfl fun i hi => (match i, hi with | 0, _ => SVles.refl _ | 1, _ => ⟨SVle.refl _, svle_val_int _ _, trivial⟩ | i + 2, h => absurd h (by omega))
theorem s11 : Spec Try.prog 11 [] (.bool true) := by
  have q13 := s13 exL (by decide)
  rw [ex_pres] at q13
  have q16 := s16 exL (by decide)
  rw [ex_dist] at q16
  have q18 := s18 exL (by decide)
  rw [ex_runs] at q18
  have q23 := s23 exL (by decide)
  rw [ex_rest] at q23
  have q26 := s26 exL exM (by decide)
  rw [ex_apply] at q26
  have q29 := s29 exL exS (by decide) (by decide)
  rw [ex_bet] at q29
  have q20 := s20 [1, 1] (by decide)
  rw [show chkL [1, 1] = 6 by decide +kernel] at q20
  dsimp only at q13 q16 q18 q23 q26 q29 q20
  have c1 := s22 [1, 2, 4] [1, 2, 4]
  have c2 := s22 [1, 3, 1] [1, 3, 1]
  have c3 := s39 exM exM
  have c4 := s22 exS exS
  refine spec_of_good mixed Try.func11 F11_ok (by kernel_rfl) ?_
  have s14x := s14 5 (cutRows 1 [.int .i64 3, .int .i64 1, .int .i64 2, .int .i64 5, .int .i64 4]) (by omega)
  refine good_run 14 (obs := []) (by kernel_rfl) trivial ?_
  refine good_own (c := True) (by kernel_rfl) (by kernel_rfl) (SVles.refl _) (s14 ((5 : Nat)) (cutRows (1 : Nat) [SV.int IntKind.i64 (3 : Int), SV.int IntKind.i64 (1 : Int), SV.int IntKind.i64 (2 : Int), SV.int IntKind.i64 (5 : Int), SV.int IntKind.i64 (4 : Int)]) (by (first | omega | assumption | exact ⟨rfl, trivial⟩ | simp only [AllP, inK_iff, roomOK_iff, decide_eq_true_eq, Bool.and_eq_true, Bool.or_eq_true, Bool.not_eq_true', decide_eq_false_iff_not, and_true, true_and]; (first | omega | (and_intros <;> intros <;> (try and_intros) <;> first | omega | assumption | exact trivial))))) ?_
  refine good_call (args := [SV.lst (1 : Nat) (5 : Nat) (cutRows (1 : Nat) [SV.int IntKind.i64 (3 : Int), SV.int IntKind.i64 (1 : Int), SV.int IntKind.i64 (2 : Int), SV.int IntKind.i64 (5 : Int), SV.int IntKind.i64 (4 : Int)])]) (c := True) (by kernel_rfl) (fun _ => show SVles _ [ints exL] from ⟨lit_ints exL, trivial⟩) (fun _ => q13) (by kernel_rfl) ?_
  refine good_run 10 (obs := []) (by kernel_rfl) trivial ?_
  refine good_own (c := True) (by kernel_rfl) (by kernel_rfl) (SVles.refl _) (s14 ((5 : Nat)) (cutRows (1 : Nat) [SV.int IntKind.i64 (3 : Int), SV.int IntKind.i64 (1 : Int), SV.int IntKind.i64 (2 : Int), SV.int IntKind.i64 (5 : Int), SV.int IntKind.i64 (4 : Int)]) (by (first | omega | assumption | exact ⟨rfl, trivial⟩ | simp only [AllP, inK_iff, roomOK_iff, decide_eq_true_eq, Bool.and_eq_true, Bool.or_eq_true, Bool.not_eq_true', decide_eq_false_iff_not, and_true, true_and]; (first | omega | (and_intros <;> intros <;> (try and_intros) <;> first | omega | assumption | exact trivial))))) ?_
  refine good_call (args := [SV.lst (1 : Nat) (5 : Nat) (cutRows (1 : Nat) [SV.int IntKind.i64 (3 : Int), SV.int IntKind.i64 (1 : Int), SV.int IntKind.i64 (2 : Int), SV.int IntKind.i64 (5 : Int), SV.int IntKind.i64 (4 : Int)])]) (c := True) (by kernel_rfl) (fun _ => show SVles _ [ints exL] from ⟨lit_ints exL, trivial⟩) (fun _ => q16) (by kernel_rfl) ?_
  refine good_run 10 (obs := []) (by kernel_rfl) trivial ?_
  refine good_own (c := True) (by kernel_rfl) (by kernel_rfl) (SVles.refl _) (s14 ((5 : Nat)) (cutRows (1 : Nat) [SV.int IntKind.i64 (3 : Int), SV.int IntKind.i64 (1 : Int), SV.int IntKind.i64 (2 : Int), SV.int IntKind.i64 (5 : Int), SV.int IntKind.i64 (4 : Int)]) (by (first | omega | assumption | exact ⟨rfl, trivial⟩ | simp only [AllP, inK_iff, roomOK_iff, decide_eq_true_eq, Bool.and_eq_true, Bool.or_eq_true, Bool.not_eq_true', decide_eq_false_iff_not, and_true, true_and]; (first | omega | (and_intros <;> intros <;> (try and_intros) <;> first | omega | assumption | exact trivial))))) ?_
  refine good_call (args := [SV.lst (1 : Nat) (5 : Nat) (cutRows (1 : Nat) [SV.int IntKind.i64 (3 : Int), SV.int IntKind.i64 (1 : Int), SV.int IntKind.i64 (2 : Int), SV.int IntKind.i64 (5 : Int), SV.int IntKind.i64 (4 : Int)])]) (c := True) (by kernel_rfl) (fun _ => show SVles _ [ints exL] from ⟨lit_ints exL, trivial⟩) (fun _ => q18) (by kernel_rfl) ?_
  refine good_run 10 (obs := []) (by kernel_rfl) trivial ?_
  refine good_own (c := True) (by kernel_rfl) (by kernel_rfl) (SVles.refl _) (s14 ((5 : Nat)) (cutRows (1 : Nat) [SV.int IntKind.i64 (3 : Int), SV.int IntKind.i64 (1 : Int), SV.int IntKind.i64 (2 : Int), SV.int IntKind.i64 (5 : Int), SV.int IntKind.i64 (4 : Int)]) (by (first | omega | assumption | exact ⟨rfl, trivial⟩ | simp only [AllP, inK_iff, roomOK_iff, decide_eq_true_eq, Bool.and_eq_true, Bool.or_eq_true, Bool.not_eq_true', decide_eq_false_iff_not, and_true, true_and]; (first | omega | (and_intros <;> intros <;> (try and_intros) <;> first | omega | assumption | exact trivial))))) ?_
  refine good_call (args := [SV.lst (1 : Nat) (5 : Nat) (cutRows (1 : Nat) [SV.int IntKind.i64 (3 : Int), SV.int IntKind.i64 (1 : Int), SV.int IntKind.i64 (2 : Int), SV.int IntKind.i64 (5 : Int), SV.int IntKind.i64 (4 : Int)])]) (c := True) (by kernel_rfl) (fun _ => show SVles _ [ints exL] from ⟨lit_ints exL, trivial⟩) (fun _ => q23) (by kernel_rfl) ?_
  refine good_run 10 (obs := []) (by kernel_rfl) trivial ?_
  refine good_own (c := True) (by kernel_rfl) (by kernel_rfl) (SVles.refl _) (s14 ((5 : Nat)) (cutRows (1 : Nat) [SV.int IntKind.i64 (3 : Int), SV.int IntKind.i64 (1 : Int), SV.int IntKind.i64 (2 : Int), SV.int IntKind.i64 (5 : Int), SV.int IntKind.i64 (4 : Int)]) (by (first | omega | assumption | exact ⟨rfl, trivial⟩ | simp only [AllP, inK_iff, roomOK_iff, decide_eq_true_eq, Bool.and_eq_true, Bool.or_eq_true, Bool.not_eq_true', decide_eq_false_iff_not, and_true, true_and]; (first | omega | (and_intros <;> intros <;> (try and_intros) <;> first | omega | assumption | exact trivial))))) ?_
  refine good_run 1 (obs := []) (by kernel_rfl) trivial ?_
  refine good_call (args := [SV.lst (1 : Nat) (5 : Nat) (cutRows (1 : Nat) [SV.int IntKind.i64 (3 : Int), SV.int IntKind.i64 (1 : Int), SV.int IntKind.i64 (2 : Int), SV.int IntKind.i64 (5 : Int), SV.int IntKind.i64 (4 : Int)]), SV.lst (2 : Nat) (2 : Nat) fun i => Shift.cells (List.getD exM i default)]) (c := True) (by kernel_rfl) (fun _ => show SVles _ [ints exL, shifts exM] from ⟨lit_ints exL, SVle.refl _, trivial⟩) (fun _ => q26) (by kernel_rfl) ?_
  refine good_run 10 (obs := []) (by kernel_rfl) trivial ?_
  refine good_own (c := True) (by kernel_rfl) (by kernel_rfl) (SVles.refl _) (s14 ((5 : Nat)) (cutRows (1 : Nat) [SV.int IntKind.i64 (3 : Int), SV.int IntKind.i64 (1 : Int), SV.int IntKind.i64 (2 : Int), SV.int IntKind.i64 (5 : Int), SV.int IntKind.i64 (4 : Int)]) (by (first | omega | assumption | exact ⟨rfl, trivial⟩ | simp only [AllP, inK_iff, roomOK_iff, decide_eq_true_eq, Bool.and_eq_true, Bool.or_eq_true, Bool.not_eq_true', decide_eq_false_iff_not, and_true, true_and]; (first | omega | (and_intros <;> intros <;> (try and_intros) <;> first | omega | assumption | exact trivial))))) ?_
  refine good_run 1 (obs := []) (by kernel_rfl) trivial ?_
  refine good_call (args := [SV.lst (1 : Nat) (5 : Nat) (cutRows (1 : Nat) [SV.int IntKind.i64 (3 : Int), SV.int IntKind.i64 (1 : Int), SV.int IntKind.i64 (2 : Int), SV.int IntKind.i64 (5 : Int), SV.int IntKind.i64 (4 : Int)]), SV.lst (1 : Nat) (5 : Nat) (cutRows (1 : Nat) [SV.int IntKind.i64 (1 : Int), SV.int IntKind.i64 (2 : Int), SV.int IntKind.i64 (3 : Int), SV.int IntKind.i64 (4 : Int), SV.int IntKind.i64 (5 : Int)])]) (c := True) (by kernel_rfl) (fun _ => show SVles _ [ints exL, ints exS] from ⟨lit_ints exL, lit_ints exS, trivial⟩) (fun _ => q29) (by kernel_rfl) ?_
  refine good_run 27 (obs := [InK IntKind.i64 ((0 : Int) + (0 : Int)), InK IntKind.i64 ((0 : Int) + (0 : Int) + (0 : Int)), InK IntKind.i64 ((0 : Int) + (0 : Int) + (0 : Int) + (0 : Int)), InK IntKind.i64 ((0 : Int) + (0 : Int) + (0 : Int) + (0 : Int) + (0 : Int)), InK IntKind.i64 ((0 : Int) + (0 : Int) + (0 : Int) + (0 : Int) + (0 : Int) + (0 : Int))]) (by kernel_rfl) (by (first | omega | assumption | exact ⟨rfl, trivial⟩ | simp only [AllP, inK_iff, roomOK_iff, decide_eq_true_eq, Bool.and_eq_true, Bool.or_eq_true, Bool.not_eq_true', decide_eq_false_iff_not, and_true, true_and]; (first | omega | (and_intros <;> intros <;> (try and_intros) <;> first | omega | assumption | exact trivial)))) ?_
  refine good_call (args := [SV.lst (1 : Nat) (3 : Nat) fun i => [SV.int IntKind.i64 (List.getD [(1 : Int), (2 : Int), (4 : Int)] i (0 : Int))], SV.lst (1 : Nat) (3 : Nat) (cutRows (1 : Nat) [SV.int IntKind.i64 (1 : Int), SV.int IntKind.i64 (2 : Int), SV.int IntKind.i64 (4 : Int)])]) (c := decide ((0 : Int) + (0 : Int) + (0 : Int) + (0 : Int) + (0 : Int) + (0 : Int) = (0 : Int)) = true ∧ True) (by kernel_rfl) (fun _ => show SVles _ [ints [1, 2, 4], ints [1, 2, 4]] from ⟨SVle.refl _, lit_ints [1, 2, 4], trivial⟩) (fun _ => c1) (by kernel_rfl) ?_
  refine good_run 12 (obs := []) (by kernel_rfl) trivial ?_
  refine good_call (args := [SV.lst (1 : Nat) (3 : Nat) fun i => [SV.int IntKind.i64 (List.getD [(1 : Int), (3 : Int), (1 : Int)] i (0 : Int))], SV.lst (1 : Nat) (3 : Nat) (cutRows (1 : Nat) [SV.int IntKind.i64 (1 : Int), SV.int IntKind.i64 (3 : Int), SV.int IntKind.i64 (1 : Int)])]) (c := (decide ((0 : Int) + (0 : Int) + (0 : Int) + (0 : Int) + (0 : Int) + (0 : Int) = (0 : Int)) && decide ([(1 : Int), (2 : Int), (4 : Int)] = [(1 : Int), (2 : Int), (4 : Int)]) && decide ((3 : Int) = (3 : Int))) = true ∧ True) (by kernel_rfl) (fun _ => show SVles _ [ints [1, 3, 1], ints [1, 3, 1]] from ⟨SVle.refl _, lit_ints [1, 3, 1], trivial⟩) (fun _ => c2) (by kernel_rfl) ?_
  refine good_run 10 (obs := []) (by kernel_rfl) trivial ?_
  refine good_call (args := [SV.lst (2 : Nat) (2 : Nat) fun i => Shift.cells (List.getD exM i default), SV.lst (2 : Nat) (2 : Nat) (cutRows (2 : Nat) [SV.int IntKind.i64 (3 : Int), SV.int IntKind.i64 (4 : Int), SV.int IntKind.i64 (5 : Int), SV.val (Value.int IntKind.i64 (Int.ofNat (0 : Nat)))])]) (c := (decide ((0 : Int) + (0 : Int) + (0 : Int) + (0 : Int) + (0 : Int) + (0 : Int) = (0 : Int)) && decide ([(1 : Int), (2 : Int), (4 : Int)] = [(1 : Int), (2 : Int), (4 : Int)]) && decide ((3 : Int) = (3 : Int)) && decide ([(1 : Int), (3 : Int), (1 : Int)] = [(1 : Int), (3 : Int), (1 : Int)])) = true ∧ True) (by kernel_rfl) (fun _ => show SVles _ [shifts exM, shifts exM] from ⟨SVle.refl _, lit_shifts, trivial⟩) (fun _ => c3) (by kernel_rfl) ?_
  refine good_run 8 (obs := []) (by kernel_rfl) trivial ?_
  refine good_call (args := [SV.lst (1 : Nat) (5 : Nat) fun i => [SV.int IntKind.i64 (List.getD exS i (0 : Int))], SV.lst (1 : Nat) (5 : Nat) (cutRows (1 : Nat) [SV.int IntKind.i64 (1 : Int), SV.int IntKind.i64 (2 : Int), SV.int IntKind.i64 (3 : Int), SV.int IntKind.i64 (4 : Int), SV.int IntKind.i64 (5 : Int)])]) (c := (decide ((0 : Int) + (0 : Int) + (0 : Int) + (0 : Int) + (0 : Int) + (0 : Int) = (0 : Int)) && decide ([(1 : Int), (2 : Int), (4 : Int)] = [(1 : Int), (2 : Int), (4 : Int)]) && decide ((3 : Int) = (3 : Int)) && decide ([(1 : Int), (3 : Int), (1 : Int)] = [(1 : Int), (3 : Int), (1 : Int)]) && decide (exM = exM)) = true ∧ True) (by kernel_rfl) (fun _ => show SVles _ [ints exS, ints exS] from ⟨SVle.refl _, lit_ints exS, trivial⟩) (fun _ => c4) (by kernel_rfl) ?_
  refine good_run 11 (obs := []) (by kernel_rfl) trivial ?_
  refine good_call (args := [SV.lst (1 : Nat) (2 : Nat) (cutRows (1 : Nat) [SV.int IntKind.i64 (1 : Int), SV.int IntKind.i64 (1 : Int)])]) (c := (decide ((0 : Int) + (0 : Int) + (0 : Int) + (0 : Int) + (0 : Int) + (0 : Int) = (0 : Int)) && decide ([(1 : Int), (2 : Int), (4 : Int)] = [(1 : Int), (2 : Int), (4 : Int)]) && decide ((3 : Int) = (3 : Int)) && decide ([(1 : Int), (3 : Int), (1 : Int)] = [(1 : Int), (3 : Int), (1 : Int)]) && decide (exM = exM) && decide (exS = exS) && decide ((3 : Int) = (3 : Int))) = true ∧ True) (by kernel_rfl) (fun _ => show SVles _ [ints [1, 1]] from ⟨lit_ints [1, 1], trivial⟩) (fun _ => q20) (by kernel_rfl) ?_
  refine good_run 7 (obs := []) (by kernel_rfl) trivial ?_
  refine good_fin [(decide ((0 : Int) + (0 : Int) + (0 : Int) + (0 : Int) + (0 : Int) + (0 : Int) = (0 : Int)) && decide ([(1 : Int), (2 : Int), (4 : Int)] = [(1 : Int), (2 : Int), (4 : Int)]) && decide ((3 : Int) = (3 : Int)) && decide ([(1 : Int), (3 : Int), (1 : Int)] = [(1 : Int), (3 : Int), (1 : Int)]) && decide (exM = exM) && decide (exS = exS) && decide ((3 : Int) = (3 : Int)) && decide ((6 : Int) = (6 : Int))) = true] (by kernel_rfl) ⟨(by rfl), trivial⟩
end Go.Sx.T
