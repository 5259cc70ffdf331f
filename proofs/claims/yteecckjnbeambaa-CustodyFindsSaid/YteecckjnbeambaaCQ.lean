/- Contracts of functions of the program, each proved by running its code symbolically (CQ). -/
import Derived.Test.YteecckjnbeambaaCP
namespace Go.Sx.T
open Go Go.Proofs Go.Sx
set_option maxRecDepth 100000
set_option maxHeartbeats 4000000
set_option linter.unusedVariables false
set_option linter.unusedSimpArgs false
theorem s3 (l : List Move) (m : Move) : Spec Try.prog 3 [moves l, m.sv] (.bool true) := by
  refine spec_of_good mixed Try.func3 F3_ok (by kernel_rfl) ?_
  refine good_run 9 (obs := []) (by kernel_rfl) trivial ?_
  refine good_call (c := True) (by kernel_rfl) (fun _ => SVles.refl _) (fun _ => s10) (by kernel_rfl) ?_
  refine good_run 3 (obs := []) (by kernel_rfl) trivial ?_
  refine good_cond false (by kernel_rfl) (fun h => nomatch h) (fun _ => ?_)
  refine good_run 5 (obs := []) (by kernel_rfl) trivial ?_
  refine good_call (c := True) (by kernel_rfl) (fun _ => SVles.refl _) (fun _ => s11 (l)) (by kernel_rfl) ?_
  refine good_run 3 (obs := []) (by kernel_rfl) trivial ?_
  refine good_cond (!decide ((↑(List.length l) : Int) ≤ (60 : Int))) (by kernel_rfl) (fun hc1 => ?_) (fun hc1 => ?_)
  · refine good_run 7 (obs := []) (by kernel_rfl) trivial ?_
    refine good_fin [true = true] (by kernel_rfl) ⟨rfl, trivial⟩
  · have hfew : l.length ≤ 60 := by simp at hc1; omega
    refine good_run 4 (obs := []) (by kernel_rfl) trivial ?_
    refine good_call (c := True) (by kernel_rfl) (fun _ => SVles.refl _) (fun _ => SpecOwn.spec (s13 (List.length l) (fun i => Move.cells (List.getD l i default)) (by (first | omega | assumption | exact ⟨rfl, trivial⟩ | simp only [AllP, inK_iff, roomOK_iff, decide_eq_true_eq, Bool.and_eq_true, Bool.or_eq_true, Bool.not_eq_true', decide_eq_false_iff_not, and_true, true_and]; (first | omega | (and_intros <;> intros <;> (try and_intros) <;> first | omega | assumption | exact trivial)))))) (by kernel_rfl) ?_
    refine good_run 1 (obs := [True → (0 : Nat) + (6 : Nat) ≤ (6 : Nat)]) (by kernel_rfl) (by (first | omega | assumption | exact ⟨rfl, trivial⟩ | simp only [AllP, inK_iff, roomOK_iff, decide_eq_true_eq, Bool.and_eq_true, Bool.or_eq_true, Bool.not_eq_true', decide_eq_false_iff_not, and_true, true_and]; (first | omega | (and_intros <;> intros <;> (try and_intros) <;> first | omega | assumption | exact trivial)))) ?_
    refine good_call (c := True) (by kernel_rfl) (fun _ => SVles.refl _) (fun _ => s12 (l) (m)) (by kernel_rfl) ?_
    refine good_run 11 (obs := [(0 : Nat) + (6 : Nat) ≤ (6 : Nat)]) (by kernel_rfl) (by (first | omega | assumption | exact ⟨rfl, trivial⟩ | simp only [AllP, inK_iff, roomOK_iff, decide_eq_true_eq, Bool.and_eq_true, Bool.or_eq_true, Bool.not_eq_true', decide_eq_false_iff_not, and_true, true_and]; (first | omega | (and_intros <;> intros <;> (try and_intros) <;> first | omega | assumption | exact trivial)))) ?_
    refine good_call (c := True) (by kernel_rfl) (fun _ => SVles.refl _) (fun _ => s14 (l) (m)) (by kernel_rfl) ?_
    refine good_run 10 (obs := []) (by kernel_rfl) trivial ?_
    refine good_own (c := True) (by kernel_rfl) (by kernel_rfl) (SVles.refl _) (s13 (List.length l) (fun i => Move.cells (List.getD l i default)) (by (first | omega | assumption | exact ⟨rfl, trivial⟩ | simp only [AllP, inK_iff, roomOK_iff, decide_eq_true_eq, Bool.and_eq_true, Bool.or_eq_true, Bool.not_eq_true', decide_eq_false_iff_not, and_true, true_and]; (first | omega | (and_intros <;> intros <;> (try and_intros) <;> first | omega | assumption | exact trivial))))) ?_
    refine good_call (c := True) (by kernel_rfl) (fun _ => SVles.refl _) (fun _ => s15 (l)) (by kernel_rfl) ?_
    refine good_run 1 (obs := []) (by kernel_rfl) trivial ?_
    refine good_call (c := True) (by kernel_rfl) (fun _ => SVles.refl _) (fun _ => s16 (l)) (by kernel_rfl) ?_
    refine good_run 5 (obs := []) (by kernel_rfl) trivial ?_
    refine good_call (c := decide (checkL l = checkL l) = true ∧ True) (by kernel_rfl) (fun _ => SVles.refl _) (fun _ => s17 ((appendL l m).fst) ((appendL l m).fst)) (by kernel_rfl) ?_
    refine good_run 11 (obs := []) (by kernel_rfl) trivial ?_
    refine good_fin [(decide (checkL l = checkL l) && decide ((appendL l m).fst = (appendL l m).fst) && decide ((appendL l m).snd = (appendL l m).snd)) = true] (by kernel_rfl) ⟨?_, trivial⟩
    simp
theorem s5 (l : List Move) (p : Place) (a b : Int) : Spec Try.prog 5 [moves l, p.sv, .agg [.int .i64 a, .int .i64 b]] (.bool true) := by
  refine spec_of_good mixed Try.func5 F5_ok (by kernel_rfl) ?_
  have heq := eq24
  refine good_run 10 (obs := []) (by kernel_rfl) trivial ?_
  refine good_call (c := True) (by kernel_rfl) (fun _ => SVles.refl _) (fun _ => s10) (by kernel_rfl) ?_
  refine good_run 3 (obs := []) (by kernel_rfl) trivial ?_
  refine good_cond false (by kernel_rfl) (fun h => nomatch h) (fun _ => ?_)
  refine good_run 5 (obs := []) (by kernel_rfl) trivial ?_
  refine good_call (c := True) (by kernel_rfl) (fun _ => SVles.refl _) (fun _ => s11 (l)) (by kernel_rfl) ?_
  refine good_run 3 (obs := []) (by kernel_rfl) trivial ?_
  refine good_cond (!decide ((↑(List.length l) : Int) ≤ (60 : Int))) (by kernel_rfl) (fun hc1 => ?_) (fun hc1 => ?_)
  · refine good_run 7 (obs := []) (by kernel_rfl) trivial ?_
    refine good_fin [true = true] (by kernel_rfl) ⟨rfl, trivial⟩
  · have hfew : l.length ≤ 60 := by simp at hc1; omega
    refine good_run 5 (obs := []) (by kernel_rfl) trivial ?_
    refine good_set [0, 4, 5, 7, 8, 20, 21, 22, 23, 24, 25, 26, 27, 28, 29, 60, 61, 62, 65, 66, 67, 70, 71, 72] [(1, [SV.lst (6 : Nat) (List.length l) fun i => Move.cells (List.getD l i default)], SV.lst (6 : Nat) (List.length l) fun i => Move.cells (List.getD l i default)), (6, [moves l, SV.int IntKind.i64 a, SV.int IntKind.i64 b], SV.tup [Place.sv (whereL l a b).fst, SV.int IntKind.i64 (whereL l a b).snd])] [SVles [SV.lst (6 : Nat) (List.length l) fun i => Move.cells (List.getD l i default)] [SV.lst (6 : Nat) (List.length l) fun i => Move.cells (List.getD l i default)], Spec Try.prog (13 : FuncId) [SV.lst (6 : Nat) (List.length l) fun i => Move.cells (List.getD l i default)] (SV.lst (6 : Nat) (List.length l) fun i => Move.cells (List.getD l i default)), (0 : Int) ≤ (0 : Int) ∧ (0 : Int) < (2 : Int), (0 : Int) ≤ (1 : Int) ∧ (1 : Int) < (2 : Int), SVles [SV.lst (6 : Nat) (List.length l) fun i => Move.cells (List.getD l i default), SV.int IntKind.i64 a, SV.int IntKind.i64 b] [SV.lst (6 : Nat) (List.length l) fun i => Move.cells (List.getD l i default), SV.int IntKind.i64 a, SV.int IntKind.i64 b], Spec Try.prog (18 : FuncId) [SV.lst (6 : Nat) (List.length l) fun i => Move.cells (List.getD l i default), SV.int IntKind.i64 a, SV.int IntKind.i64 b] (SV.tup [Place.sv (whereL l a b).fst, SV.int IntKind.i64 (whereL l a b).snd]), (2 : Nat) = (2 : Nat) ∧ (0 : Nat) + (2 : Nat) ≤ (2 : Nat)] (by kernel_rfl) ⟨SVles.refl _, SpecOwn.spec (s13 (List.length l) (fun i => Move.cells (List.getD l i default)) (by (first | omega | assumption | exact ⟨rfl, trivial⟩ | simp only [AllP, inK_iff, roomOK_iff, decide_eq_true_eq, Bool.and_eq_true, Bool.or_eq_true, Bool.not_eq_true', decide_eq_false_iff_not, and_true, true_and]; (first | omega | (and_intros <;> intros <;> (try and_intros) <;> first | omega | assumption | exact trivial))))), (by (first | omega | assumption | exact ⟨rfl, trivial⟩ | simp only [AllP, inK_iff, roomOK_iff, decide_eq_true_eq, Bool.and_eq_true, Bool.or_eq_true, Bool.not_eq_true', decide_eq_false_iff_not, and_true, true_and]; (first | omega | (and_intros <;> intros <;> (try and_intros) <;> first | omega | assumption | exact trivial)))), (by (first | omega | assumption | exact ⟨rfl, trivial⟩ | simp only [AllP, inK_iff, roomOK_iff, decide_eq_true_eq, Bool.and_eq_true, Bool.or_eq_true, Bool.not_eq_true', decide_eq_false_iff_not, and_true, true_and]; (first | omega | (and_intros <;> intros <;> (try and_intros) <;> first | omega | assumption | exact trivial)))), SVles.refl _, s18 (l) (a) (b), (by (first | omega | assumption | exact ⟨rfl, trivial⟩ | simp only [AllP, inK_iff, roomOK_iff, decide_eq_true_eq, Bool.and_eq_true, Bool.or_eq_true, Bool.not_eq_true', decide_eq_false_iff_not, and_true, true_and]; (first | omega | (and_intros <;> intros <;> (try and_intros) <;> first | omega | assumption | exact trivial)))), trivial⟩ ?_
    refine good_run 8 (obs := [(0 : Int) ≤ (0 : Int) ∧ (0 : Int) < (2 : Int), (0 : Int) ≤ (1 : Int) ∧ (1 : Int) < (2 : Int)]) (by kernel_rfl) (by (first | omega | assumption | exact ⟨rfl, trivial⟩ | simp only [AllP, inK_iff, roomOK_iff, decide_eq_true_eq, Bool.and_eq_true, Bool.or_eq_true, Bool.not_eq_true', decide_eq_false_iff_not, and_true, true_and]; (first | omega | (and_intros <;> intros <;> (try and_intros) <;> first | omega | assumption | exact trivial)))) ?_
    refine good_call (c := True) (by kernel_rfl) (fun _ => SVles.refl _) (fun _ => s19 (l) (a) (b)) (by kernel_rfl) ?_
    refine good_run 11 (obs := [(2 : Nat) = (2 : Nat) ∧ (0 : Nat) + (2 : Nat) ≤ (2 : Nat)]) (by kernel_rfl) (by (first | omega | assumption | exact ⟨rfl, trivial⟩ | simp only [AllP, inK_iff, roomOK_iff, decide_eq_true_eq, Bool.and_eq_true, Bool.or_eq_true, Bool.not_eq_true', decide_eq_false_iff_not, and_true, true_and]; (first | omega | (and_intros <;> intros <;> (try and_intros) <;> first | omega | assumption | exact trivial)))) ?_
    refine good_call (c := True) (by kernel_rfl) (fun _ => SVles.refl _) (fun _ => SpecOwn.spec (s13 (List.length l) (fun i => Move.cells (List.getD l i default)) (by (first | omega | assumption | exact ⟨rfl, trivial⟩ | simp only [AllP, inK_iff, roomOK_iff, decide_eq_true_eq, Bool.and_eq_true, Bool.or_eq_true, Bool.not_eq_true', decide_eq_false_iff_not, and_true, true_and]; (first | omega | (and_intros <;> intros <;> (try and_intros) <;> first | omega | assumption | exact trivial)))))) (by kernel_rfl) ?_
    refine good_run 3 (obs := [True → (0 : Nat) + (2 : Nat) ≤ (2 : Nat), True → (0 : Int) ≤ (1 : Int) ∧ (1 : Int) < (2 : Int)]) (by kernel_rfl) (by (first | omega | assumption | exact ⟨rfl, trivial⟩ | simp only [AllP, inK_iff, roomOK_iff, decide_eq_true_eq, Bool.and_eq_true, Bool.or_eq_true, Bool.not_eq_true', decide_eq_false_iff_not, and_true, true_and]; (first | omega | (and_intros <;> intros <;> (try and_intros) <;> first | omega | assumption | exact trivial)))) ?_
    refine good_call (c := True) (by kernel_rfl) (fun _ => SVles.refl _) (fun _ => s20 (l) (p) (b)) (by kernel_rfl) ?_
    refine good_run 13 (obs := [(0 : Nat) + (2 : Nat) ≤ (2 : Nat), (0 : Int) ≤ (1 : Int) ∧ (1 : Int) < (2 : Int)]) (by kernel_rfl) (by (first | omega | assumption | exact ⟨rfl, trivial⟩ | simp only [AllP, inK_iff, roomOK_iff, decide_eq_true_eq, Bool.and_eq_true, Bool.or_eq_true, Bool.not_eq_true', decide_eq_false_iff_not, and_true, true_and]; (first | omega | (and_intros <;> intros <;> (try and_intros) <;> first | omega | assumption | exact trivial)))) ?_
    refine good_call (c := True) (by kernel_rfl) (fun _ => SVles.refl _) (fun _ => s21 (l) (p) (b)) (by kernel_rfl) ?_
    refine good_run 21 (obs := [(0 : Nat) + (2 : Nat) ≤ (2 : Nat), (0 : Nat) + (2 : Nat) ≤ (2 : Nat), EqOK Try.prog (24 : TypeId) (2 : Nat) ∧ (2 : Nat) = (2 : Nat)]) (by kernel_rfl) (by (first | omega | assumption | exact ⟨rfl, trivial⟩ | simp only [AllP, inK_iff, roomOK_iff, decide_eq_true_eq, Bool.and_eq_true, Bool.or_eq_true, Bool.not_eq_true', decide_eq_false_iff_not, and_true, true_and]; (first | omega | (and_intros <;> intros <;> (try and_intros) <;> first | omega | assumption | exact trivial)))) ?_
    refine good_call (c := ((false ^^ decide ([(whereL l a b).fst.Kind, (whereL l a b).fst.Of] = [(whereL l a b).fst.Kind, (whereL l a b).fst.Of])) && decide ((whereL l a b).snd = (whereL l a b).snd)) = true ∧ True) (by kernel_rfl) (fun _ => SVles.refl _) (fun _ => s22 ((atL l p b).fst) ((atL l p b).fst)) (by kernel_rfl) ?_
    refine good_run 11 (obs := []) (by kernel_rfl) trivial ?_
    refine good_fin [((false ^^ decide ([(whereL l a b).fst.Kind, (whereL l a b).fst.Of] = [(whereL l a b).fst.Kind, (whereL l a b).fst.Of])) && decide ((whereL l a b).snd = (whereL l a b).snd) && decide ((atL l p b).fst = (atL l p b).fst) && decide ((atL l p b).snd = (atL l p b).snd)) = true] (by kernel_rfl) ⟨?_, trivial⟩
    all_goals simp
theorem s8 (l : List Move) (b : Int) : Spec Try.prog 8 [moves l, .int .i64 b] (.bool true) := by
  refine spec_of_good mixed Try.func8 F8_ok (by kernel_rfl) ?_
  refine good_run 8 (obs := []) (by kernel_rfl) trivial ?_
  refine good_call (c := True) (by kernel_rfl) (fun _ => SVles.refl _) (fun _ => s10) (by kernel_rfl) ?_
  refine good_run 3 (obs := []) (by kernel_rfl) trivial ?_
  refine good_cond false (by kernel_rfl) (fun h => nomatch h) (fun _ => ?_)
  refine good_run 5 (obs := []) (by kernel_rfl) trivial ?_
  refine good_call (c := True) (by kernel_rfl) (fun _ => SVles.refl _) (fun _ => s11 (l)) (by kernel_rfl) ?_
  refine good_run 3 (obs := []) (by kernel_rfl) trivial ?_
  refine good_cond (!decide ((↑(List.length l) : Int) ≤ (60 : Int))) (by kernel_rfl) (fun hc1 => ?_) (fun hc1 => ?_)
  · refine good_run 7 (obs := []) (by kernel_rfl) trivial ?_
    refine good_fin [true = true] (by kernel_rfl) ⟨rfl, trivial⟩
  · have hfew : l.length ≤ 60 := by simp at hc1; omega
    refine good_run 4 (obs := []) (by kernel_rfl) trivial ?_
    refine good_own (c := True) (by kernel_rfl) (by kernel_rfl) (SVles.refl _) (s13 (List.length l) (fun i => Move.cells (List.getD l i default)) (by (first | omega | assumption | exact ⟨rfl, trivial⟩ | simp only [AllP, inK_iff, roomOK_iff, decide_eq_true_eq, Bool.and_eq_true, Bool.or_eq_true, Bool.not_eq_true', decide_eq_false_iff_not, and_true, true_and]; (first | omega | (and_intros <;> intros <;> (try and_intros) <;> first | omega | assumption | exact trivial))))) ?_
    refine good_run 1 (obs := []) (by kernel_rfl) trivial ?_
    refine good_call (c := True) (by kernel_rfl) (fun _ => SVles.refl _) (fun _ => s24 (l) (b)) (by kernel_rfl) ?_
    refine good_run 11 (obs := []) (by kernel_rfl) trivial ?_
    refine good_call (c := True) (by kernel_rfl) (fun _ => SVles.refl _) (fun _ => s25 (l) (b)) (by kernel_rfl) ?_
    refine good_run 10 (obs := []) (by kernel_rfl) trivial ?_
    refine good_own (c := True) (by kernel_rfl) (by kernel_rfl) (SVles.refl _) (s13 (List.length l) (fun i => Move.cells (List.getD l i default)) (by (first | omega | assumption | exact ⟨rfl, trivial⟩ | simp only [AllP, inK_iff, roomOK_iff, decide_eq_true_eq, Bool.and_eq_true, Bool.or_eq_true, Bool.not_eq_true', decide_eq_false_iff_not, and_true, true_and]; (first | omega | (and_intros <;> intros <;> (try and_intros) <;> first | omega | assumption | exact trivial))))) ?_
    refine good_call (c := True) (by kernel_rfl) (fun _ => SVles.refl _) (fun _ => s26 (l)) (by kernel_rfl) ?_
    refine good_run 10 (obs := []) (by kernel_rfl) trivial ?_
    refine good_call (c := True) (by kernel_rfl) (fun _ => SVles.refl _) (fun _ => s27 (l)) (by kernel_rfl) ?_
    refine good_run 10 (obs := []) (by kernel_rfl) trivial ?_
    refine good_own (c := True) (by kernel_rfl) (by kernel_rfl) (SVles.refl _) (s13 (List.length l) (fun i => Move.cells (List.getD l i default)) (by (first | omega | assumption | exact ⟨rfl, trivial⟩ | simp only [AllP, inK_iff, roomOK_iff, decide_eq_true_eq, Bool.and_eq_true, Bool.or_eq_true, Bool.not_eq_true', decide_eq_false_iff_not, and_true, true_and]; (first | omega | (and_intros <;> intros <;> (try and_intros) <;> first | omega | assumption | exact trivial))))) ?_
    refine good_run 1 (obs := []) (by kernel_rfl) trivial ?_
    refine good_call (c := True) (by kernel_rfl) (fun _ => SVles.refl _) (fun _ => s23 (l) (b)) (by kernel_rfl) ?_
    refine good_run 13 (obs := []) (by kernel_rfl) trivial ?_
    refine good_call (c := True) (by kernel_rfl) (fun _ => SVles.refl _) (fun _ => s28 (l) (b)) (by kernel_rfl) ?_
    refine good_run 13 (obs := []) (by kernel_rfl) trivial ?_
    refine good_call (c := True) (by kernel_rfl) (fun _ => SVles.refl _) (fun _ => s17 ((histF l b).fst) ((histF l b).fst)) (by kernel_rfl) ?_
    refine good_run 9 (obs := []) (by kernel_rfl) trivial ?_
    refine good_call (c := (decide ((histF l b).fst = (histF l b).fst) && decide ((histF l b).snd = (histF l b).snd)) = true ∧ True) (by kernel_rfl) (fun _ => SVles.refl _) (fun _ => s22 ((boxesF l).fst) ((boxesF l).fst)) (by kernel_rfl) ?_
    refine good_run 11 (obs := []) (by kernel_rfl) trivial ?_
    refine good_call (c := (decide ((histF l b).fst = (histF l b).fst) && decide ((histF l b).snd = (histF l b).snd) && decide ((boxesF l).fst = (boxesF l).fst) && decide ((boxesF l).snd = (boxesF l).snd)) = true ∧ True) (by kernel_rfl) (fun _ => SVles.refl _) (fun _ => s29 ((staysF l b).fst) ((staysF l b).fst)) (by kernel_rfl) ?_
    refine good_run 6 (obs := []) (by kernel_rfl) trivial ?_
    refine good_call (c := (decide ((histF l b).fst = (histF l b).fst) && decide ((histF l b).snd = (histF l b).snd) && decide ((boxesF l).fst = (boxesF l).fst) && decide ((boxesF l).snd = (boxesF l).snd) && decide ((staysF l b).fst = (staysF l b).fst)) = true ∧ True) (by kernel_rfl) (fun _ => SVles.refl _) (fun _ => s30 ((staysF l b).snd.fst) ((staysF l b).snd.fst)) (by kernel_rfl) ?_
    refine good_run 11 (obs := []) (by kernel_rfl) trivial ?_
    refine good_fin [(decide ((histF l b).fst = (histF l b).fst) && decide ((histF l b).snd = (histF l b).snd) && decide ((boxesF l).fst = (boxesF l).fst) && decide ((boxesF l).snd = (boxesF l).snd) && decide ((staysF l b).fst = (staysF l b).fst) && decide ((staysF l b).snd.fst = (staysF l b).snd.fst) && decide ((staysF l b).snd.2 = (staysF l b).snd.2)) = true] (by kernel_rfl) ⟨?_, trivial⟩
    simp
end Go.Sx.T
