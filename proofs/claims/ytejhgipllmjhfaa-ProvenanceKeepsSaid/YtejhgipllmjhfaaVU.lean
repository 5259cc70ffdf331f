/- Contracts of functions of the program, each proved by running its code symbolically (VU). -/
import Derived.Test.YtejhgipllmjhfaaVT
namespace Go.Sx.T
open Go Go.Proofs Go.Sx
set_option maxRecDepth 100000
set_option maxHeartbeats 4000000
set_option linter.unusedVariables false
set_option linter.unusedSimpArgs false
theorem eq30 : EqOK Try.prog 30 3 := eqOK_flat 5 (by decide) (by kernel_rfl) ⟨_, Try.underlying30⟩ (by kernel_rfl)
theorem few_le {n : Nat} (h : (!true || !(decide ((n : Int) ≤ 20) || decide ((n : Int) = 256) || decide ((n : Int) = 257))) = false) : n ≤ 257 := by
  simp only [Bool.not_true, Bool.false_or, Bool.not_eq_false', Bool.or_eq_true, decide_eq_true_eq] at h
  omega
theorem s3 (l : List Came) (u : Int) : Spec Try.prog 3 [cames l, .int .i64 u] (.bool true) := by
  have heq := eq30
  refine spec_of_good mixed Try.func3 F3_ok (by kernel_rfl) ?_
  refine good_run 8 (obs := []) (by kernel_rfl) trivial ?_
  refine good_call (c := True) (by kernel_rfl) (fun _ => SVles.refl _) (fun _ => s10) (by kernel_rfl) ?_
  refine good_run 4 (obs := []) (by kernel_rfl) trivial ?_
  refine good_call (c := (!true) = false ∧ True) (by kernel_rfl) (fun _ => SVles.refl _) (fun _ => s11 (l)) (by kernel_rfl) ?_
  refine good_run 5 (obs := []) (by kernel_rfl) trivial ?_
  refine good_cond (!true || !(decide ((↑(List.length l) : Int) ≤ (20 : Int)) || decide ((↑(List.length l) : Int) = (256 : Int)) || decide ((↑(List.length l) : Int) = (257 : Int)))) (by kernel_rfl) (fun hc1 => ?_) (fun hc1 => ?_)
  · refine good_run 2 (obs := []) (by kernel_rfl) trivial ?_
    refine good_call (c := True) (by kernel_rfl) (fun _ => SVles.refl _) (fun _ => s10) (by kernel_rfl) ?_
    refine good_run 5 (obs := []) (by kernel_rfl) trivial ?_
    refine good_fin [true = true] (by kernel_rfl) ⟨rfl, trivial⟩
  · have hl : l.length ≤ 257 := few_le hc1
    clear hc1
    refine good_run 4 (obs := []) (by kernel_rfl) trivial ?_
    refine good_own (c := True) (by kernel_rfl) (by kernel_rfl) (SVles.refl _) (s13 (List.length l) (fun i => Came.cells (List.getD l i default)) (by (first | omega | assumption | exact ⟨rfl, trivial⟩ | simp only [AllP, inK_iff, roomOK_iff, decide_eq_true_eq, Bool.and_eq_true, Bool.or_eq_true, Bool.not_eq_true', decide_eq_false_iff_not, and_true, true_and]; (first | omega | (and_intros <;> intros <;> (try and_intros) <;> first | omega | assumption | exact trivial))))) ?_
    refine good_call (c := True) (by kernel_rfl) (fun _ => SVles.refl _) (fun _ => s12 (l)) (by kernel_rfl) ?_
    refine good_run 10 (obs := []) (by kernel_rfl) trivial ?_
    refine good_call (c := True) (by kernel_rfl) (fun _ => SVles.refl _) (fun _ => s14 (l)) (by kernel_rfl) ?_
    refine good_run 10 (obs := []) (by kernel_rfl) trivial ?_
    refine good_own (c := True) (by kernel_rfl) (by kernel_rfl) (SVles.refl _) (s13 (List.length l) (fun i => Came.cells (List.getD l i default)) (by (first | omega | assumption | exact ⟨rfl, trivial⟩ | simp only [AllP, inK_iff, roomOK_iff, decide_eq_true_eq, Bool.and_eq_true, Bool.or_eq_true, Bool.not_eq_true', decide_eq_false_iff_not, and_true, true_and]; (first | omega | (and_intros <;> intros <;> (try and_intros) <;> first | omega | assumption | exact trivial))))) ?_
    refine good_run 1 (obs := []) (by kernel_rfl) trivial ?_
    refine good_call (c := True) (by kernel_rfl) (fun _ => SVles.refl _) (fun _ => s15 (l) (u)) (by kernel_rfl) ?_
    refine good_run 12 (obs := [(3 : Nat) = (3 : Nat) ∧ (0 : Nat) + (3 : Nat) ≤ (3 : Nat)]) (by kernel_rfl) (by (first | omega | assumption | exact ⟨rfl, trivial⟩ | simp only [AllP, inK_iff, roomOK_iff, decide_eq_true_eq, Bool.and_eq_true, Bool.or_eq_true, Bool.not_eq_true', decide_eq_false_iff_not, and_true, true_and]; (first | omega | (and_intros <;> intros <;> (try and_intros) <;> first | omega | assumption | exact trivial)))) ?_
    refine good_call (c := True) (by kernel_rfl) (fun _ => SVles.refl _) (fun _ => s16 (l) (u)) (by kernel_rfl) ?_
    refine good_run 32 (obs := [(3 : Nat) = (3 : Nat) ∧ (0 : Nat) + (3 : Nat) ≤ (3 : Nat), (decide ((checkC l).fst = (checkC l).fst) && decide ((checkC l).snd = (checkC l).snd)) = true ∧ True → (0 : Nat) + (3 : Nat) ≤ (3 : Nat), (decide ((checkC l).fst = (checkC l).fst) && decide ((checkC l).snd = (checkC l).snd)) = true ∧ True → (0 : Nat) + (3 : Nat) ≤ (3 : Nat), (decide ((checkC l).fst = (checkC l).fst) && decide ((checkC l).snd = (checkC l).snd)) = true ∧ True → EqOK Try.prog (30 : Nat) (3 : Nat) ∧ (3 : Nat) = (3 : Nat)]) (by kernel_rfl) (by (first | omega | assumption | exact ⟨rfl, trivial⟩ | simp only [AllP, inK_iff, roomOK_iff, decide_eq_true_eq, Bool.and_eq_true, Bool.or_eq_true, Bool.not_eq_true', decide_eq_false_iff_not, and_true, true_and]; (first | omega | (and_intros <;> intros <;> (try and_intros) <;> first | omega | assumption | exact trivial)))) ?_
    refine good_fin [(decide ((checkC l).fst = (checkC l).fst) && decide ((checkC l).snd = (checkC l).snd) && (false ^^ decide ([(ofC l u).fst.Office, (ofC l u).fst.Acc, (ofC l u).fst.Num] = [(ofC l u).fst.Office, (ofC l u).fst.Acc, (ofC l u).fst.Num])) && (ofC l u).snd == (ofC l u).snd) = true] (by kernel_rfl) ⟨?_, trivial⟩
    simp
theorem s4 (l : List Came) (c : Came) : Spec Try.prog 4 [cames l, c.sv] (.bool true) := by
  refine spec_of_good mixed Try.func4 F4_ok (by kernel_rfl) ?_
  refine good_run 9 (obs := []) (by kernel_rfl) trivial ?_
  refine good_call (c := True) (by kernel_rfl) (fun _ => SVles.refl _) (fun _ => s10) (by kernel_rfl) ?_
  refine good_run 4 (obs := []) (by kernel_rfl) trivial ?_
  refine good_call (c := (!true) = false ∧ True) (by kernel_rfl) (fun _ => SVles.refl _) (fun _ => s11 (l)) (by kernel_rfl) ?_
  refine good_run 5 (obs := []) (by kernel_rfl) trivial ?_
  refine good_cond (!true || !(decide ((↑(List.length l) : Int) ≤ (20 : Int)) || decide ((↑(List.length l) : Int) = (256 : Int)) || decide ((↑(List.length l) : Int) = (257 : Int)))) (by kernel_rfl) (fun hc1 => ?_) (fun hc1 => ?_)
  · refine good_run 2 (obs := []) (by kernel_rfl) trivial ?_
    refine good_call (c := True) (by kernel_rfl) (fun _ => SVles.refl _) (fun _ => s10) (by kernel_rfl) ?_
    refine good_run 5 (obs := []) (by kernel_rfl) trivial ?_
    refine good_fin [true = true] (by kernel_rfl) ⟨rfl, trivial⟩
  · have hl : l.length ≤ 257 := few_le hc1
    clear hc1
    refine good_run 4 (obs := []) (by kernel_rfl) trivial ?_
    refine good_call (c := True) (by kernel_rfl) (fun _ => SVles.refl _) (fun _ => SpecOwn.spec (s13 (List.length l) (fun i => Came.cells (List.getD l i default)) (by (first | omega | assumption | exact ⟨rfl, trivial⟩ | simp only [AllP, inK_iff, roomOK_iff, decide_eq_true_eq, Bool.and_eq_true, Bool.or_eq_true, Bool.not_eq_true', decide_eq_false_iff_not, and_true, true_and]; (first | omega | (and_intros <;> intros <;> (try and_intros) <;> first | omega | assumption | exact trivial)))))) (by kernel_rfl) ?_
    refine good_run 1 (obs := [True → (0 : Nat) + (4 : Nat) ≤ (4 : Nat)]) (by kernel_rfl) (by (first | omega | assumption | exact ⟨rfl, trivial⟩ | simp only [AllP, inK_iff, roomOK_iff, decide_eq_true_eq, Bool.and_eq_true, Bool.or_eq_true, Bool.not_eq_true', decide_eq_false_iff_not, and_true, true_and]; (first | omega | (and_intros <;> intros <;> (try and_intros) <;> first | omega | assumption | exact trivial)))) ?_
    refine good_call (c := True) (by kernel_rfl) (fun _ => SVles.refl _) (fun _ => s17 (l) (c)) (by kernel_rfl) ?_
    refine good_run 11 (obs := [(0 : Nat) + (4 : Nat) ≤ (4 : Nat)]) (by kernel_rfl) (by (first | omega | assumption | exact ⟨rfl, trivial⟩ | simp only [AllP, inK_iff, roomOK_iff, decide_eq_true_eq, Bool.and_eq_true, Bool.or_eq_true, Bool.not_eq_true', decide_eq_false_iff_not, and_true, true_and]; (first | omega | (and_intros <;> intros <;> (try and_intros) <;> first | omega | assumption | exact trivial)))) ?_
    refine good_call (c := True) (by kernel_rfl) (fun _ => SVles.refl _) (fun _ => s18 (l) (c)) (by kernel_rfl) ?_
    refine good_run 11 (obs := []) (by kernel_rfl) trivial ?_
    refine good_call (c := True) (by kernel_rfl) (fun _ => SVles.refl _) (fun _ => s19 ((addC l c).fst) ((addC l c).fst)) (by kernel_rfl) ?_
    refine good_run 9 (obs := []) (by kernel_rfl) trivial ?_
    refine good_fin [(decide ((addC l c).fst = (addC l c).fst) && decide ((addC l c).snd = (addC l c).snd)) = true] (by kernel_rfl) ⟨?_, trivial⟩
    simp
theorem s5 (l : List Came) (a : Int) (ks : List Int) : Spec Try.prog 5 [cames l, .int .i64 a, ints ks] (.bool true) := by
  refine spec_of_good mixed Try.func5 F5_ok (by kernel_rfl) ?_
  refine good_run 8 (obs := []) (by kernel_rfl) trivial ?_
  refine good_call (c := True) (by kernel_rfl) (fun _ => SVles.refl _) (fun _ => s10) (by kernel_rfl) ?_
  refine good_run 4 (obs := []) (by kernel_rfl) trivial ?_
  refine good_call (c := (!true) = false ∧ True) (by kernel_rfl) (fun _ => SVles.refl _) (fun _ => s11 (l)) (by kernel_rfl) ?_
  refine good_run 15 (obs := []) (by kernel_rfl) trivial ?_
  refine good_cond (!true || !(decide ((↑(List.length l) : Int) ≤ (20 : Int)) || decide ((↑(List.length l) : Int) = (256 : Int)) || decide ((↑(List.length l) : Int) = (257 : Int))) || decide ((20 : Int) < (↑(List.length ks) : Int)) && !decide ((↑(List.length ks) : Int) = (1025 : Int))) (by kernel_rfl) (fun hc1 => ?_) (fun hc1 => ?_)
  · refine good_run 2 (obs := []) (by kernel_rfl) trivial ?_
    refine good_call (c := True) (by kernel_rfl) (fun _ => SVles.refl _) (fun _ => s10) (by kernel_rfl) ?_
    refine good_run 5 (obs := []) (by kernel_rfl) trivial ?_
    refine good_fin [true = true] (by kernel_rfl) ⟨rfl, trivial⟩
  · have hl : l.length ≤ 257 ∧ ks.length ≤ 1025 := by
      simp only [Bool.not_true, Bool.false_or, Bool.or_eq_false_iff, Bool.not_eq_false', Bool.or_eq_true, decide_eq_true_eq, Bool.and_eq_false_iff, decide_eq_false_iff_not, gt_iff_lt] at hc1
      omega
    obtain ⟨hl, hk⟩ := hl
    clear hc1
    refine good_run 4 (obs := []) (by kernel_rfl) trivial ?_
    refine good_own (c := True) (by kernel_rfl) (by kernel_rfl) (SVles.refl _) (s13 (List.length l) (fun i => Came.cells (List.getD l i default)) (by (first | omega | assumption | exact ⟨rfl, trivial⟩ | simp only [AllP, inK_iff, roomOK_iff, decide_eq_true_eq, Bool.and_eq_true, Bool.or_eq_true, Bool.not_eq_true', decide_eq_false_iff_not, and_true, true_and]; (first | omega | (and_intros <;> intros <;> (try and_intros) <;> first | omega | assumption | exact trivial))))) ?_
    refine good_run 1 (obs := []) (by kernel_rfl) trivial ?_
    refine good_call (c := True) (by kernel_rfl) (fun _ => SVles.refl _) (fun _ => s20 (l) (a)) (by kernel_rfl) ?_
    refine good_run 11 (obs := []) (by kernel_rfl) trivial ?_
    refine good_call (c := True) (by kernel_rfl) (fun _ => SVles.refl _) (fun _ => s21 (l) (a)) (by kernel_rfl) ?_
    refine good_run 10 (obs := []) (by kernel_rfl) trivial ?_
    refine good_own (c := True) (by kernel_rfl) (by kernel_rfl) (SVles.refl _) (s13 (List.length l) (fun i => Came.cells (List.getD l i default)) (by (first | omega | assumption | exact ⟨rfl, trivial⟩ | simp only [AllP, inK_iff, roomOK_iff, decide_eq_true_eq, Bool.and_eq_true, Bool.or_eq_true, Bool.not_eq_true', decide_eq_false_iff_not, and_true, true_and]; (first | omega | (and_intros <;> intros <;> (try and_intros) <;> first | omega | assumption | exact trivial))))) ?_
    refine good_run 1 (obs := []) (by kernel_rfl) trivial ?_
    refine good_own (c := True) (by kernel_rfl) (by kernel_rfl) (SVles.refl _) (s23 (List.length ks) (fun i => [SV.int IntKind.i64 (List.getD ks i (0 : Int))]) (by (first | omega | assumption | exact ⟨rfl, trivial⟩ | simp only [AllP, inK_iff, roomOK_iff, decide_eq_true_eq, Bool.and_eq_true, Bool.or_eq_true, Bool.not_eq_true', decide_eq_false_iff_not, and_true, true_and]; (first | omega | (and_intros <;> intros <;> (try and_intros) <;> first | omega | assumption | exact trivial))))) ?_
    refine good_call (c := True) (by kernel_rfl) (fun _ => SVles.refl _) (fun _ => s22 (l) (ks)) (by kernel_rfl) ?_
    refine good_run 11 (obs := []) (by kernel_rfl) trivial ?_
    refine good_call (c := True) (by kernel_rfl) (fun _ => SVles.refl _) (fun _ => s24 (l) (ks)) (by kernel_rfl) ?_
    refine good_run 10 (obs := []) (by kernel_rfl) trivial ?_
    refine good_own (c := True) (by kernel_rfl) (by kernel_rfl) (SVles.refl _) (s13 (List.length l) (fun i => Came.cells (List.getD l i default)) (by (first | omega | assumption | exact ⟨rfl, trivial⟩ | simp only [AllP, inK_iff, roomOK_iff, decide_eq_true_eq, Bool.and_eq_true, Bool.or_eq_true, Bool.not_eq_true', decide_eq_false_iff_not, and_true, true_and]; (first | omega | (and_intros <;> intros <;> (try and_intros) <;> first | omega | assumption | exact trivial))))) ?_
    refine good_run 1 (obs := []) (by kernel_rfl) trivial ?_
    refine good_own (c := True) (by kernel_rfl) (by kernel_rfl) (SVles.refl _) (s23 (List.length ks) (fun i => [SV.int IntKind.i64 (List.getD ks i (0 : Int))]) (by (first | omega | assumption | exact ⟨rfl, trivial⟩ | simp only [AllP, inK_iff, roomOK_iff, decide_eq_true_eq, Bool.and_eq_true, Bool.or_eq_true, Bool.not_eq_true', decide_eq_false_iff_not, and_true, true_and]; (first | omega | (and_intros <;> intros <;> (try and_intros) <;> first | omega | assumption | exact trivial))))) ?_
    refine good_call (c := True) (by kernel_rfl) (fun _ => SVles.refl _) (fun _ => s25 (l) (ks)) (by kernel_rfl) ?_
    refine good_run 11 (obs := []) (by kernel_rfl) trivial ?_
    refine good_call (c := True) (by kernel_rfl) (fun _ => SVles.refl _) (fun _ => s26 (l) (ks)) (by kernel_rfl) ?_
    refine good_run 11 (obs := []) (by kernel_rfl) trivial ?_
    refine good_call (c := True) (by kernel_rfl) (fun _ => SVles.refl _) (fun _ => s27 ((orderC l a).fst) ((orderC l a).fst)) (by kernel_rfl) ?_
    refine good_run 9 (obs := []) (by kernel_rfl) trivial ?_
    refine good_call (c := (decide ((orderC l a).fst = (orderC l a).fst) && decide ((orderC l a).snd = (orderC l a).snd)) = true ∧ True) (by kernel_rfl) (fun _ => SVles.refl _) (fun _ => s27 ((gatherC Came.Acc l ks).fst) ((gatherC Came.Acc l ks).fst)) (by kernel_rfl) ?_
    refine good_run 11 (obs := []) (by kernel_rfl) trivial ?_
    refine good_call (c := (decide ((orderC l a).fst = (orderC l a).fst) && decide ((orderC l a).snd = (orderC l a).snd) && decide ((gatherC Came.Acc l ks).fst = (gatherC Came.Acc l ks).fst) && decide ((gatherC Came.Acc l ks).snd = (gatherC Came.Acc l ks).snd)) = true ∧ True) (by kernel_rfl) (fun _ => SVles.refl _) (fun _ => s27 ((gatherC Came.Office l ks).fst) ((gatherC Came.Office l ks).fst)) (by kernel_rfl) ?_
    refine good_run 11 (obs := []) (by kernel_rfl) trivial ?_
    refine good_fin [(decide ((orderC l a).fst = (orderC l a).fst) && decide ((orderC l a).snd = (orderC l a).snd) && decide ((gatherC Came.Acc l ks).fst = (gatherC Came.Acc l ks).fst) && decide ((gatherC Came.Acc l ks).snd = (gatherC Came.Acc l ks).snd) && decide ((gatherC Came.Office l ks).fst = (gatherC Came.Office l ks).fst) && decide ((gatherC Came.Office l ks).snd = (gatherC Came.Office l ks).snd)) = true] (by kernel_rfl) ⟨?_, trivial⟩
    simp
theorem s6 (l : List Came) (a : Int) (ks : List Int) : Spec Try.prog 6 [cames l, .int .i64 a, ints ks] (.bool true) := by
  refine spec_of_good mixed Try.func6 F6_ok (by kernel_rfl) ?_
  refine good_run 8 (obs := []) (by kernel_rfl) trivial ?_
  refine good_call (c := True) (by kernel_rfl) (fun _ => SVles.refl _) (fun _ => s10) (by kernel_rfl) ?_
  refine good_run 4 (obs := []) (by kernel_rfl) trivial ?_
  refine good_call (c := (!true) = false ∧ True) (by kernel_rfl) (fun _ => SVles.refl _) (fun _ => s11 (l)) (by kernel_rfl) ?_
  refine good_run 10 (obs := []) (by kernel_rfl) trivial ?_
  refine good_cond (!true || !(decide ((↑(List.length l) : Int) ≤ (20 : Int)) || decide ((↑(List.length l) : Int) = (256 : Int)) || decide ((↑(List.length l) : Int) = (257 : Int))) || decide ((20 : Int) < (↑(List.length ks) : Int))) (by kernel_rfl) (fun hc1 => ?_) (fun hc1 => ?_)
  · refine good_run 2 (obs := []) (by kernel_rfl) trivial ?_
    refine good_call (c := True) (by kernel_rfl) (fun _ => SVles.refl _) (fun _ => s10) (by kernel_rfl) ?_
    refine good_run 5 (obs := []) (by kernel_rfl) trivial ?_
    refine good_fin [true = true] (by kernel_rfl) ⟨rfl, trivial⟩
  · have hl : l.length ≤ 257 ∧ ks.length ≤ 20 := by
      simp only [Bool.not_true, Bool.false_or, Bool.or_eq_false_iff, Bool.not_eq_false', Bool.or_eq_true, decide_eq_true_eq, Bool.and_eq_false_iff, decide_eq_false_iff_not, gt_iff_lt] at hc1
      omega
    obtain ⟨hl, hk⟩ := hl
    clear hc1
    refine good_run 4 (obs := []) (by kernel_rfl) trivial ?_
    refine good_own (c := True) (by kernel_rfl) (by kernel_rfl) (SVles.refl _) (s13 (List.length l) (fun i => Came.cells (List.getD l i default)) (by (first | omega | assumption | exact ⟨rfl, trivial⟩ | simp only [AllP, inK_iff, roomOK_iff, decide_eq_true_eq, Bool.and_eq_true, Bool.or_eq_true, Bool.not_eq_true', decide_eq_false_iff_not, and_true, true_and]; (first | omega | (and_intros <;> intros <;> (try and_intros) <;> first | omega | assumption | exact trivial))))) ?_
    refine good_run 2 (obs := []) (by kernel_rfl) trivial ?_
    refine good_own (c := True) (by kernel_rfl) (by kernel_rfl) (SVles.refl _) (s23 (List.length ks) (fun i => [SV.int IntKind.i64 (List.getD ks i (0 : Int))]) (by (first | omega | assumption | exact ⟨rfl, trivial⟩ | simp only [AllP, inK_iff, roomOK_iff, decide_eq_true_eq, Bool.and_eq_true, Bool.or_eq_true, Bool.not_eq_true', decide_eq_false_iff_not, and_true, true_and]; (first | omega | (and_intros <;> intros <;> (try and_intros) <;> first | omega | assumption | exact trivial))))) ?_
    refine good_call (c := True) (by kernel_rfl) (fun _ => SVles.refl _) (fun _ => s28 (l) (a) (ks) (by (first | omega | assumption | exact ⟨rfl, trivial⟩ | simp only [AllP, inK_iff, roomOK_iff, decide_eq_true_eq, Bool.and_eq_true, Bool.or_eq_true, Bool.not_eq_true', decide_eq_false_iff_not, and_true, true_and]; (first | omega | (and_intros <;> intros <;> (try and_intros) <;> first | omega | assumption | exact trivial))))) (by kernel_rfl) ?_
    refine good_run 14 (obs := []) (by kernel_rfl) trivial ?_
    refine good_call (c := True) (by kernel_rfl) (fun _ => SVles.refl _) (fun _ => s29 (l) (a) (ks) (by (first | omega | assumption | exact ⟨rfl, trivial⟩ | simp only [AllP, inK_iff, roomOK_iff, decide_eq_true_eq, Bool.and_eq_true, Bool.or_eq_true, Bool.not_eq_true', decide_eq_false_iff_not, and_true, true_and]; (first | omega | (and_intros <;> intros <;> (try and_intros) <;> first | omega | assumption | exact trivial))))) (by kernel_rfl) ?_
    refine good_run 13 (obs := []) (by kernel_rfl) trivial ?_
    refine good_call (c := True) (by kernel_rfl) (fun _ => SVles.refl _) (fun _ => s27 ((completeC l a ks).fst) ((completeC l a ks).fst)) (by kernel_rfl) ?_
    refine good_run 4 (obs := []) (by kernel_rfl) trivial ?_
    refine good_call (c := decide ((completeC l a ks).fst = (completeC l a ks).fst) = true ∧ True) (by kernel_rfl) (fun _ => SVles.refl _) (fun _ => s27 ((completeC l a ks).snd.fst) ((completeC l a ks).snd.fst)) (by kernel_rfl) ?_
    refine good_run 11 (obs := []) (by kernel_rfl) trivial ?_
    refine good_fin [(decide ((completeC l a ks).fst = (completeC l a ks).fst) && decide ((completeC l a ks).snd.fst = (completeC l a ks).snd.fst) && decide ((completeC l a ks).snd.2 = (completeC l a ks).snd.2)) = true] (by kernel_rfl) ⟨?_, trivial⟩
    simp
end Go.Sx.T
