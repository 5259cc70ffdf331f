/- Contracts of functions of the program, each proved by running its code symbolically (RQ). -/
import Derived.Test.YtdiikneggikfkaaRO
namespace Go.Sx.T
open Go Go.Proofs Go.Sx
set_option maxRecDepth 100000
set_option maxHeartbeats 4000000
set_option linter.unusedVariables false
set_option linter.unusedSimpArgs false
theorem few40 {n : Nat} (h : (!decide ((n : Int) ≤ 40)) = false) : n ≤ 40 := by
  simp only [Bool.not_eq_false', decide_eq_true_eq] at h
  omega
/-! Checks. -/
theorem s3 (s : Int) (l : List Bk) (d : Int) : Spec Try.prog 3 [.int .i64 s, bks l, .int .i64 d] (.bool true) := by
  refine spec_of_good mixed Try.func3 F3_ok (by kernel_rfl) ?_
  refine good_run 8 (obs := []) (by kernel_rfl) trivial ?_
  refine good_call (c := True) (by kernel_rfl) (fun _ => SVles.refl _) (fun _ => s9) (by kernel_rfl) ?_
  refine good_run 3 (obs := []) (by kernel_rfl) trivial ?_
  refine good_cond false (by kernel_rfl) (fun h => nomatch h) (fun _ => ?_)
  refine good_run 5 (obs := []) (by kernel_rfl) trivial ?_
  refine good_call (c := True) (by kernel_rfl) (fun _ => SVles.refl _) (fun _ => s10 (l)) (by kernel_rfl) ?_
  refine good_run 3 (obs := []) (by kernel_rfl) trivial ?_
  refine good_cond (!decide ((↑(List.length l) : Int) ≤ (40 : Int))) (by kernel_rfl) (fun hc1 => ?_) (fun hc1 => ?_)
  · refine good_run 7 (obs := []) (by kernel_rfl) trivial ?_
    refine good_fin [true = true] (by kernel_rfl) ⟨rfl, trivial⟩
  · have hl := few40 hc1
    clear hc1
    refine good_run 4 (obs := []) (by kernel_rfl) trivial ?_
    refine good_own (c := True) (by kernel_rfl) (by kernel_rfl) (SVles.refl _) (s12 (List.length l) (fun i => Bk.cells (List.getD l i default)) (by (first | omega | assumption | exact ⟨rfl, trivial⟩ | simp only [AllP, inK_iff, roomOK_iff, decide_eq_true_eq, Bool.and_eq_true, Bool.or_eq_true, Bool.not_eq_true', decide_eq_false_iff_not, and_true, true_and]; (first | omega | (and_intros <;> intros <;> (try and_intros) <;> first | omega | assumption | exact trivial))))) ?_
    refine good_call (c := True) (by kernel_rfl) (fun _ => SVles.refl _) (fun _ => s11 (l) (by (first | omega | assumption | exact ⟨rfl, trivial⟩ | simp only [AllP, inK_iff, roomOK_iff, decide_eq_true_eq, Bool.and_eq_true, Bool.or_eq_true, Bool.not_eq_true', decide_eq_false_iff_not, and_true, true_and]; (first | omega | (and_intros <;> intros <;> (try and_intros) <;> first | omega | assumption | exact trivial))))) (by kernel_rfl) ?_
    refine good_run 10 (obs := []) (by kernel_rfl) trivial ?_
    refine good_call (c := True) (by kernel_rfl) (fun _ => SVles.refl _) (fun _ => s13 (l)) (by kernel_rfl) ?_
    refine good_run 11 (obs := []) (by kernel_rfl) trivial ?_
    refine good_own (c := True) (by kernel_rfl) (by kernel_rfl) (SVles.refl _) (s12 (List.length l) (fun i => Bk.cells (List.getD l i default)) (by (first | omega | assumption | exact ⟨rfl, trivial⟩ | simp only [AllP, inK_iff, roomOK_iff, decide_eq_true_eq, Bool.and_eq_true, Bool.or_eq_true, Bool.not_eq_true', decide_eq_false_iff_not, and_true, true_and]; (first | omega | (and_intros <;> intros <;> (try and_intros) <;> first | omega | assumption | exact trivial))))) ?_
    refine good_call (c := True) (by kernel_rfl) (fun _ => SVles.refl _) (fun _ => s14 (s) (l)) (by kernel_rfl) ?_
    refine good_run 2 (obs := []) (by kernel_rfl) trivial ?_
    refine good_call (c := True) (by kernel_rfl) (fun _ => SVles.refl _) (fun _ => s15 (s) (l)) (by kernel_rfl) ?_
    refine good_run 4 (obs := []) (by kernel_rfl) trivial ?_
    refine good_call (c := decide (checkL s l = checkL s l) = true ∧ True) (by kernel_rfl) (fun _ => SVles.refl _) (fun _ => SpecOwn.spec (s12 (List.length l) (fun i => Bk.cells (List.getD l i default)) (by (first | omega | assumption | exact ⟨rfl, trivial⟩ | simp only [AllP, inK_iff, roomOK_iff, decide_eq_true_eq, Bool.and_eq_true, Bool.or_eq_true, Bool.not_eq_true', decide_eq_false_iff_not, and_true, true_and]; (first | omega | (and_intros <;> intros <;> (try and_intros) <;> first | omega | assumption | exact trivial)))))) (by kernel_rfl) ?_
    refine good_run 3 (obs := []) (by kernel_rfl) trivial ?_
    refine good_call (c := decide (checkL s l = checkL s l) = true ∧ True) (by kernel_rfl) (fun _ => SVles.refl _) (fun _ => s16 (l) (d)) (by kernel_rfl) ?_
    refine good_run 4 (obs := []) (by kernel_rfl) trivial ?_
    refine good_call (c := decide (checkL s l = checkL s l) = true ∧ True) (by kernel_rfl) (fun _ => SVles.refl _) (fun _ => s17 (l) (d)) (by kernel_rfl) ?_
    refine good_run 17 (obs := []) (by kernel_rfl) trivial ?_
    refine good_fin [(decide (checkL s l = checkL s l) && decide ((↑(loadL l d) : Int) = (↑(loadL l d) : Int)) && decide ((peakL l).fst = (peakL l).fst) && decide ((↑(peakL l).snd : Int) = (↑(peakL l).snd : Int))) = true] (by kernel_rfl) ⟨?_, trivial⟩
    simp
/-! Admits. -/
theorem s4 (s : Int) (l : List Bk) (b : Bk) : Spec Try.prog 4 [.int .i64 s, bks l, b.sv] (.bool true) := by
  refine spec_of_good mixed Try.func4 F4_ok (by kernel_rfl) ?_
  have heq := eq31
  refine good_run 9 (obs := []) (by kernel_rfl) trivial ?_
  refine good_call (c := True) (by kernel_rfl) (fun _ => SVles.refl _) (fun _ => s9) (by kernel_rfl) ?_
  refine good_run 3 (obs := []) (by kernel_rfl) trivial ?_
  refine good_cond false (by kernel_rfl) (fun h => nomatch h) (fun _ => ?_)
  refine good_run 5 (obs := []) (by kernel_rfl) trivial ?_
  refine good_call (c := True) (by kernel_rfl) (fun _ => SVles.refl _) (fun _ => s10 (l)) (by kernel_rfl) ?_
  refine good_run 3 (obs := []) (by kernel_rfl) trivial ?_
  refine good_cond (!decide ((↑(List.length l) : Int) ≤ (40 : Int))) (by kernel_rfl) (fun hc1 => ?_) (fun hc1 => ?_)
  · refine good_run 7 (obs := []) (by kernel_rfl) trivial ?_
    refine good_fin [true = true] (by kernel_rfl) ⟨rfl, trivial⟩
  · have hl := few40 hc1
    clear hc1
    refine good_run 5 (obs := []) (by kernel_rfl) trivial ?_
    refine good_call (c := True) (by kernel_rfl) (fun _ => SVles.refl _) (fun _ => SpecOwn.spec (s12 (List.length l) (fun i => Bk.cells (List.getD l i default)) (by (first | omega | assumption | exact ⟨rfl, trivial⟩ | simp only [AllP, inK_iff, roomOK_iff, decide_eq_true_eq, Bool.and_eq_true, Bool.or_eq_true, Bool.not_eq_true', decide_eq_false_iff_not, and_true, true_and]; (first | omega | (and_intros <;> intros <;> (try and_intros) <;> first | omega | assumption | exact trivial)))))) (by kernel_rfl) ?_
    refine good_run 1 (obs := [True → (0 : Nat) + (4 : Nat) ≤ (4 : Nat)]) (by kernel_rfl) (by (first | omega | assumption | exact ⟨rfl, trivial⟩ | simp only [AllP, inK_iff, roomOK_iff, decide_eq_true_eq, Bool.and_eq_true, Bool.or_eq_true, Bool.not_eq_true', decide_eq_false_iff_not, and_true, true_and]; (first | omega | (and_intros <;> intros <;> (try and_intros) <;> first | omega | assumption | exact trivial)))) ?_
    refine good_call (c := True) (by kernel_rfl) (fun _ => SVles.refl _) (fun _ => s18 (s) (l) (b)) (by kernel_rfl) ?_
    refine good_run 12 (obs := [(0 : Nat) + (4 : Nat) ≤ (4 : Nat)]) (by kernel_rfl) (by (first | omega | assumption | exact ⟨rfl, trivial⟩ | simp only [AllP, inK_iff, roomOK_iff, decide_eq_true_eq, Bool.and_eq_true, Bool.or_eq_true, Bool.not_eq_true', decide_eq_false_iff_not, and_true, true_and]; (first | omega | (and_intros <;> intros <;> (try and_intros) <;> first | omega | assumption | exact trivial)))) ?_
    refine good_call (c := True) (by kernel_rfl) (fun _ => SVles.refl _) (fun _ => s19 (s) (l) (b)) (by kernel_rfl) ?_
    refine good_run 11 (obs := []) (by kernel_rfl) trivial ?_
    refine good_call (c := True) (by kernel_rfl) (fun _ => SVles.refl _) (fun _ => SpecOwn.spec (s12 (List.length l) (fun i => Bk.cells (List.getD l i default)) (by (first | omega | assumption | exact ⟨rfl, trivial⟩ | simp only [AllP, inK_iff, roomOK_iff, decide_eq_true_eq, Bool.and_eq_true, Bool.or_eq_true, Bool.not_eq_true', decide_eq_false_iff_not, and_true, true_and]; (first | omega | (and_intros <;> intros <;> (try and_intros) <;> first | omega | assumption | exact trivial)))))) (by kernel_rfl) ?_
    refine good_run 5 (obs := []) (by kernel_rfl) trivial ?_
    refine good_call (c := True) (by kernel_rfl) (fun _ => SVles.refl _) (fun _ => s20 (s) (l) (b.ID) (b.F)) (by kernel_rfl) ?_
    refine good_run 16 (obs := []) (by kernel_rfl) trivial ?_
    refine good_call (c := True) (by kernel_rfl) (fun _ => SVles.refl _) (fun _ => s21 (s) (l) (b.ID) (b.F)) (by kernel_rfl) ?_
    refine good_run 11 (obs := []) (by kernel_rfl) trivial ?_
    refine good_call (c := True) (by kernel_rfl) (fun _ => SVles.refl _) (fun _ => s22 ((admitL s l b).fst) ((admitL s l b).fst)) (by kernel_rfl) ?_
    refine good_run 9 (obs := []) (by kernel_rfl) trivial ?_
    refine good_call (c := (decide ((admitL s l b).fst = (admitL s l b).fst) && decide ((admitL s l b).snd = (admitL s l b).snd)) = true ∧ True) (by kernel_rfl) (fun _ => SVles.refl _) (fun _ => s22 ((cancelL s l b.ID b.F).fst) ((cancelL s l b.ID b.F).fst)) (by kernel_rfl) ?_
    refine good_run 11 (obs := []) (by kernel_rfl) trivial ?_
    refine good_fin [(decide ((admitL s l b).fst = (admitL s l b).fst) && decide ((admitL s l b).snd = (admitL s l b).snd) && decide ((cancelL s l b.ID b.F).fst = (cancelL s l b.ID b.F).fst) && decide ((cancelL s l b.ID b.F).snd = (cancelL s l b.ID b.F).snd)) = true] (by kernel_rfl) ⟨?_, trivial⟩
    simp
/-! Peak. -/
theorem s6 (l : List Bk) (d : Int) : Spec Try.prog 6 [bks l, .int .i64 d] (.bool true) := by
  refine spec_of_good mixed Try.func6 F6_ok (by kernel_rfl) ?_
  have hp := peakL_is l
  refine good_run 8 (obs := []) (by kernel_rfl) trivial ?_
  refine good_call (c := True) (by kernel_rfl) (fun _ => SVles.refl _) (fun _ => s9) (by kernel_rfl) ?_
  refine good_run 3 (obs := []) (by kernel_rfl) trivial ?_
  refine good_cond false (by kernel_rfl) (fun h => nomatch h) (fun _ => ?_)
  refine good_run 5 (obs := []) (by kernel_rfl) trivial ?_
  refine good_call (c := True) (by kernel_rfl) (fun _ => SVles.refl _) (fun _ => s10 (l)) (by kernel_rfl) ?_
  refine good_run 3 (obs := []) (by kernel_rfl) trivial ?_
  refine good_cond (!decide ((↑(List.length l) : Int) ≤ (40 : Int))) (by kernel_rfl) (fun hc1 => ?_) (fun hc1 => ?_)
  · refine good_run 7 (obs := []) (by kernel_rfl) trivial ?_
    refine good_fin [true = true] (by kernel_rfl) ⟨rfl, trivial⟩
  · have hl := few40 hc1
    clear hc1
    have h1 := hp.load
    have h2 := hp.most d
    have h3 := hp.first
    refine good_run 4 (obs := []) (by kernel_rfl) trivial ?_
    refine good_own (c := True) (by kernel_rfl) (by kernel_rfl) (SVles.refl _) (s12 (List.length l) (fun i => Bk.cells (List.getD l i default)) (by (first | omega | assumption | exact ⟨rfl, trivial⟩ | simp only [AllP, inK_iff, roomOK_iff, decide_eq_true_eq, Bool.and_eq_true, Bool.or_eq_true, Bool.not_eq_true', decide_eq_false_iff_not, and_true, true_and]; (first | omega | (and_intros <;> intros <;> (try and_intros) <;> first | omega | assumption | exact trivial))))) ?_
    refine good_call (c := True) (by kernel_rfl) (fun _ => SVles.refl _) (fun _ => s11 (l) (by (first | omega | assumption | exact ⟨rfl, trivial⟩ | simp only [AllP, inK_iff, roomOK_iff, decide_eq_true_eq, Bool.and_eq_true, Bool.or_eq_true, Bool.not_eq_true', decide_eq_false_iff_not, and_true, true_and]; (first | omega | (and_intros <;> intros <;> (try and_intros) <;> first | omega | assumption | exact trivial))))) (by kernel_rfl) ?_
    refine good_run 10 (obs := []) (by kernel_rfl) trivial ?_
    refine good_own (c := True) (by kernel_rfl) (by kernel_rfl) (SVles.refl _) (s12 (List.length l) (fun i => Bk.cells (List.getD l i default)) (by (first | omega | assumption | exact ⟨rfl, trivial⟩ | simp only [AllP, inK_iff, roomOK_iff, decide_eq_true_eq, Bool.and_eq_true, Bool.or_eq_true, Bool.not_eq_true', decide_eq_false_iff_not, and_true, true_and]; (first | omega | (and_intros <;> intros <;> (try and_intros) <;> first | omega | assumption | exact trivial))))) ?_
    refine good_run 1 (obs := []) (by kernel_rfl) trivial ?_
    refine good_call (c := True) (by kernel_rfl) (fun _ => SVles.refl _) (fun _ => s16 (l) (d)) (by kernel_rfl) ?_
    refine good_run 7 (obs := []) (by kernel_rfl) trivial ?_
    refine good_own (c := True) (by kernel_rfl) (by kernel_rfl) (SVles.refl _) (s12 (List.length l) (fun i => Bk.cells (List.getD l i default)) (by (first | omega | assumption | exact ⟨rfl, trivial⟩ | simp only [AllP, inK_iff, roomOK_iff, decide_eq_true_eq, Bool.and_eq_true, Bool.or_eq_true, Bool.not_eq_true', decide_eq_false_iff_not, and_true, true_and]; (first | omega | (and_intros <;> intros <;> (try and_intros) <;> first | omega | assumption | exact trivial))))) ?_
    refine good_run 1 (obs := []) (by kernel_rfl) trivial ?_
    refine good_call (c := True) (by kernel_rfl) (fun _ => SVles.refl _) (fun _ => s16 (l) ((peakL l).fst)) (by kernel_rfl) ?_
    refine good_run 9 (obs := []) (by kernel_rfl) trivial ?_
    refine good_cond (!decide ((↑(loadL l (peakL l).fst) : Int) = (↑(peakL l).snd : Int)) || decide ((↑(peakL l).snd : Int) < (↑(loadL l d) : Int))) (by kernel_rfl) (fun hc1 => ?_) (fun hc1 => ?_)
    · exfalso
      simp only [Bool.or_eq_true, Bool.not_eq_true', decide_eq_false_iff_not, decide_eq_true_eq] at hc1
      omega
    · refine good_run 19 (obs := []) (by kernel_rfl) trivial ?_
      refine good_fin [(decide ((peakL l).fst ≤ d) || decide ((↑(loadL l d) : Int) < (↑(peakL l).snd : Int)) || decide ((↑(peakL l).snd : Int) = (0 : Int))) = true] (by kernel_rfl) ⟨?_, trivial⟩
      simp only [Bool.or_eq_true, decide_eq_true_eq]
      by_cases h0 : (peakL l).2 = 0
      · omega
      · by_cases h4 : (peakL l).1 ≤ d
        · omega
        · have := h3 (by omega) d (by omega)
          omega
/-! Undone. -/
theorem s8 (s : Int) (l : List Bk) (b : Bk) : Spec Try.prog 8 [.int .i64 s, bks l, b.sv] (.bool true) := by
  refine spec_of_good mixed Try.func8 F8_ok (by kernel_rfl) ?_
  have heq := eq31
  refine good_run 9 (obs := []) (by kernel_rfl) trivial ?_
  refine good_call (c := True) (by kernel_rfl) (fun _ => SVles.refl _) (fun _ => s9) (by kernel_rfl) ?_
  refine good_run 3 (obs := []) (by kernel_rfl) trivial ?_
  refine good_cond false (by kernel_rfl) (fun h => nomatch h) (fun _ => ?_)
  refine good_run 5 (obs := []) (by kernel_rfl) trivial ?_
  refine good_call (c := True) (by kernel_rfl) (fun _ => SVles.refl _) (fun _ => s10 (l)) (by kernel_rfl) ?_
  refine good_run 3 (obs := []) (by kernel_rfl) trivial ?_
  refine good_cond (!decide ((↑(List.length l) : Int) ≤ (40 : Int))) (by kernel_rfl) (fun hc1 => ?_) (fun hc1 => ?_)
  · refine good_run 7 (obs := []) (by kernel_rfl) trivial ?_
    refine good_fin [true = true] (by kernel_rfl) ⟨rfl, trivial⟩
  · have hl := few40 hc1
    clear hc1
    refine good_run 5 (obs := []) (by kernel_rfl) trivial ?_
    refine good_call (c := True) (by kernel_rfl) (fun _ => SVles.refl _) (fun _ => SpecOwn.spec (s12 (List.length l) (fun i => Bk.cells (List.getD l i default)) (by (first | omega | assumption | exact ⟨rfl, trivial⟩ | simp only [AllP, inK_iff, roomOK_iff, decide_eq_true_eq, Bool.and_eq_true, Bool.or_eq_true, Bool.not_eq_true', decide_eq_false_iff_not, and_true, true_and]; (first | omega | (and_intros <;> intros <;> (try and_intros) <;> first | omega | assumption | exact trivial)))))) (by kernel_rfl) ?_
    refine good_run 1 (obs := [True → (0 : Nat) + (4 : Nat) ≤ (4 : Nat)]) (by kernel_rfl) (by (first | omega | assumption | exact ⟨rfl, trivial⟩ | simp only [AllP, inK_iff, roomOK_iff, decide_eq_true_eq, Bool.and_eq_true, Bool.or_eq_true, Bool.not_eq_true', decide_eq_false_iff_not, and_true, true_and]; (first | omega | (and_intros <;> intros <;> (try and_intros) <;> first | omega | assumption | exact trivial)))) ?_
    refine good_call (c := True) (by kernel_rfl) (fun _ => SVles.refl _) (fun _ => s18 (s) (l) (b)) (by kernel_rfl) ?_
    refine good_run 14 (obs := []) (by kernel_rfl) trivial ?_
    refine good_cond (!decide ((admitL s l b).snd = (0 : Int))) (by kernel_rfl) (fun hc1 => ?_) (fun hc1 => ?_)
    · have h : (admitL s l b).2 ≠ 0 := by simpa using hc1
      rw [admit_bad h]
      refine good_run 10 (obs := []) (by kernel_rfl) trivial ?_
      refine good_fin [decide ((0 : Int) = (0 : Int)) = true] (by kernel_rfl) ⟨(by rfl), trivial⟩
    · have h : (admitL s l b).2 = 0 := by simpa using hc1
      obtain ⟨hR, he⟩ := admit_ok h
      have hu := undone hR
      rw [he]
      have hrd := right_readers hR
      have hml : (l ++ [b]).length ≤ 41 := by rw [List.length_append, List.length_singleton]; omega
      have hck : checkL s (l ++ [b]) = 0 := right_iff.2 hR
      have s20b := s20 s (l ++ [b]) b.ID b.F
      rw [hu] at s20b
      have s14a := s14 s (l ++ [b])
      rw [hck] at s14a
      have s22a := s22 l l
      rw [decide_eq_true rfl] at s22a
      generalize l ++ [b] = m at hrd hml s20b s14a
      refine good_run 5 (obs := []) (by kernel_rfl) trivial ?_
      refine good_call (c := True) (by kernel_rfl) (fun _ => SVles.refl _) (fun _ => SpecOwn.spec (s12 (List.length m) (fun i => Bk.cells (List.getD m i default)) (by (first | omega | assumption | exact ⟨rfl, trivial⟩ | simp only [AllP, inK_iff, roomOK_iff, decide_eq_true_eq, Bool.and_eq_true, Bool.or_eq_true, Bool.not_eq_true', decide_eq_false_iff_not, and_true, true_and]; (first | omega | (and_intros <;> intros <;> (try and_intros) <;> first | omega | assumption | exact trivial)))))) (by kernel_rfl) ?_
      refine good_run 5 (obs := []) (by kernel_rfl) trivial ?_
      refine good_call (c := True) (by kernel_rfl) (fun _ => SVles.refl _) (fun _ => s20b) (by kernel_rfl) ?_
      refine good_run 16 (obs := []) (by kernel_rfl) trivial ?_
      refine good_loopJ (fun i : Nat => ⟨[(45, .sv (.int .i64 (i))), (44, LV.sv (SV.int IntKind.i64 (↑(List.length m) : Int))), (10, LV.sv (SV.int IntKind.i64 (0 : Int))), (9, LV.sv (SV.lst (4 : Nat) (List.length (l, (0 : Int)).fst) fun i => Bk.cells (List.getD (l, (0 : Int)).fst i default))), (7, LV.sv (SV.lst (4 : Nat) (List.length m) fun i => Bk.cells (List.getD m i default))), (0, LV.sv (SV.int IntKind.i64 s)), (1, LV.sv (SV.lst (4 : Nat) (List.length l) fun i => Bk.cells (List.getD l i default)))], [Blk.cells (31 : Nat) true [SV.int IntKind.i64 b.ID, SV.int IntKind.i64 b.Rd, SV.int IntKind.i64 b.F, SV.int IntKind.i64 b.U]]⟩) (fun i => i ≤ m.length) (fun i => m.length - i) (0) [b.ID = b.ID, b.Rd = b.Rd, b.F = b.F, b.U = b.U, (0 : Int) = (0 : Int), (↑(List.length m) : Int) = (↑(List.length m) : Int), (0 : Int) = (0 : Int), List.length (l, (0 : Int)).fst = List.length (l, (0 : Int)).fst ∧ ∀ (i : Nat), i < List.length (l, (0 : Int)).fst → (fun i => Bk.cells (List.getD (l, (0 : Int)).fst i default)) i = (fun i => Bk.cells (List.getD (l, (0 : Int)).fst i default)) i, List.length m = List.length m ∧ ∀ (i : Nat), i < List.length m → (fun i => Bk.cells (List.getD m i default)) i = (fun i => Bk.cells (List.getD m i default)) i, s = s, List.length l = List.length l ∧ ∀ (i : Nat), i < List.length l → (fun i => Bk.cells (List.getD l i default)) i = (fun i => Bk.cells (List.getD l i default)) i] (by kernel_rfl) (by kernel_rfl) ⟨rfl, rfl, rfl, rfl, rfl, rfl, rfl, ⟨rfl, fun _ _ => rfl⟩, ⟨rfl, fun _ _ => rfl⟩, rfl, ⟨rfl, fun _ _ => rfl⟩, trivial⟩ (by omega) ?_
      intro i hi
      refine good_run 6 (obs := []) (by kernel_rfl) trivial ?_
      refine good_cond (decide ((↑i : Int) < (↑(List.length m) : Int))) (by kernel_rfl) (fun hc2 => ?_) (fun hc2 => ?_)
      · have hlt : i < m.length := by simp only [decide_eq_true_eq] at hc2; omega
        refine good_run 16 (obs := []) (by kernel_rfl) trivial ?_
        refine good_loopJ (fun k : Nat => ⟨[(49, .sv (.int .i64 (k))), (48, LV.sv (SV.int IntKind.i64 (↑i : Int))), (11, LV.sv (SV.int IntKind.i64 (↑i : Int))), (45, LV.sv (SV.int IntKind.i64 (↑i : Int))), (44, LV.sv (SV.int IntKind.i64 (↑(List.length m) : Int))), (10, LV.sv (SV.int IntKind.i64 (0 : Int))), (9, LV.sv (SV.lst (4 : Nat) (List.length (l, (0 : Int)).fst) fun i => Bk.cells (List.getD (l, (0 : Int)).fst i default))), (7, LV.sv (SV.lst (4 : Nat) (List.length m) fun i => Bk.cells (List.getD m i default))), (0, LV.sv (SV.int IntKind.i64 s)), (1, LV.sv (SV.lst (4 : Nat) (List.length l) fun i => Bk.cells (List.getD l i default)))], [Blk.cells (31 : Nat) true [SV.int IntKind.i64 b.ID, SV.int IntKind.i64 b.Rd, SV.int IntKind.i64 b.F, SV.int IntKind.i64 b.U]]⟩) (fun k => k ≤ i) (fun k => i - k) (0) [b.ID = b.ID, b.Rd = b.Rd, b.F = b.F, b.U = b.U, (0 : Int) = (0 : Int), (↑i : Int) = (↑i : Int), (↑i : Int) = (↑i : Int), (↑i : Int) = (↑i : Int), (↑(List.length m) : Int) = (↑(List.length m) : Int), (0 : Int) = (0 : Int), List.length (l, (0 : Int)).fst = List.length (l, (0 : Int)).fst ∧ ∀ (i : Nat), i < List.length (l, (0 : Int)).fst → (fun i => Bk.cells (List.getD (l, (0 : Int)).fst i default)) i = (fun i => Bk.cells (List.getD (l, (0 : Int)).fst i default)) i, List.length m = List.length m ∧ ∀ (i : Nat), i < List.length m → (fun i => Bk.cells (List.getD m i default)) i = (fun i => Bk.cells (List.getD m i default)) i, s = s, List.length l = List.length l ∧ ∀ (i : Nat), i < List.length l → (fun i => Bk.cells (List.getD l i default)) i = (fun i => Bk.cells (List.getD l i default)) i] (by kernel_rfl) (by kernel_rfl) ⟨rfl, rfl, rfl, rfl, rfl, rfl, rfl, rfl, rfl, rfl, ⟨rfl, fun _ _ => rfl⟩, ⟨rfl, fun _ _ => rfl⟩, rfl, ⟨rfl, fun _ _ => rfl⟩, trivial⟩ (by omega) ?_
        intro k hk
        refine good_run 6 (obs := []) (by kernel_rfl) trivial ?_
        refine good_cond (decide ((↑k : Int) < (↑i : Int))) (by kernel_rfl) (fun hc3 => ?_) (fun hc3 => ?_)
        · have hki : k < i := by simp only [decide_eq_true_eq] at hc3; omega
          refine good_run 31 (obs := [True → (4 : Nat) = (4 : Nat) ∧ (0 : Int) ≤ (↑i : Int) ∧ (↑i : Int) < (↑(List.length m) : Int), True → (4 : Nat) = (4 : Nat) ∧ (0 : Int) ≤ (↑k : Int) ∧ (↑k : Int) < (↑(List.length m) : Int), decide ((List.getD m i default).Rd = (List.getD m k default).Rd) = true ∧ True → (4 : Nat) = (4 : Nat) ∧ (0 : Int) ≤ (↑i : Int) ∧ (↑i : Int) < (↑(List.length m) : Int), decide ((List.getD m i default).Rd = (List.getD m k default).Rd) = true ∧ True → (0 : Nat) + (4 : Nat) ≤ (4 : Nat), decide ((List.getD m i default).Rd = (List.getD m k default).Rd) = true ∧ True → (4 : Nat) = (4 : Nat) ∧ (0 : Int) ≤ (↑k : Int) ∧ (↑k : Int) < (↑(List.length m) : Int), decide ((List.getD m i default).Rd = (List.getD m k default).Rd) = true ∧ True → (0 : Nat) + (4 : Nat) ≤ (4 : Nat)]) (by kernel_rfl) (by (first | omega | assumption | exact ⟨rfl, trivial⟩ | simp only [AllP, inK_iff, roomOK_iff, decide_eq_true_eq, Bool.and_eq_true, Bool.or_eq_true, Bool.not_eq_true', decide_eq_false_iff_not, and_true, true_and]; (first | omega | (and_intros <;> intros <;> (try and_intros) <;> first | omega | assumption | exact trivial)))) ?_
          refine good_call (c := decide ((List.getD m i default).Rd = (List.getD m k default).Rd) = true ∧ True) (by kernel_rfl) (fun _ => SVles.refl _) (fun _ => s24 (List.getD m i default) (List.getD m k default)) (by kernel_rfl) ?_
          refine good_run 3 (obs := []) (by kernel_rfl) trivial ?_
          refine good_cond (decide ((List.getD m i default).Rd = (List.getD m k default).Rd) && meetB (List.getD m i default).F (List.getD m i default).U (List.getD m k default).F (List.getD m k default).U) (by kernel_rfl) (fun hc4 => ?_) (fun hc4 => ?_)
          · exfalso
            have h1 := List.pairwise_iff_getElem.1 hrd k i (by omega) hlt hki
            rw [← getD_of_lt (d := default) m k (by omega), ← getD_of_lt (d := default) m i hlt] at h1
            simp only [Bool.and_eq_true, decide_eq_true_eq, meetB_iff] at hc4
            exact h1 hc4.1.symm ⟨hc4.2.2, hc4.2.1⟩
          · refine good_run 7 (obs := [InK IntKind.i64 ((↑k : Int) + (1 : Int))]) (by kernel_rfl) (by (first | omega | assumption | exact ⟨rfl, trivial⟩ | simp only [AllP, inK_iff, roomOK_iff, decide_eq_true_eq, Bool.and_eq_true, Bool.or_eq_true, Bool.not_eq_true', decide_eq_false_iff_not, and_true, true_and]; (first | omega | (and_intros <;> intros <;> (try and_intros) <;> first | omega | assumption | exact trivial)))) ?_
            refine good_backJ (k + 1) [b.ID = b.ID, b.Rd = b.Rd, b.F = b.F, b.U = b.U, (↑k : Int) + (1 : Int) = (↑(k + (1 : Nat)) : Int), (↑i : Int) = (↑i : Int), (↑i : Int) = (↑i : Int), (↑i : Int) = (↑i : Int), (↑(List.length m) : Int) = (↑(List.length m) : Int), (0 : Int) = (0 : Int), List.length (l, (0 : Int)).fst = List.length (l, (0 : Int)).fst ∧ ∀ (i : Nat), i < List.length (l, (0 : Int)).fst → (fun i => Bk.cells (List.getD (l, (0 : Int)).fst i default)) i = (fun i => Bk.cells (List.getD (l, (0 : Int)).fst i default)) i, List.length m = List.length m ∧ ∀ (i : Nat), i < List.length m → (fun i => Bk.cells (List.getD m i default)) i = (fun i => Bk.cells (List.getD m i default)) i, s = s, List.length l = List.length l ∧ ∀ (i : Nat), i < List.length l → (fun i => Bk.cells (List.getD l i default)) i = (fun i => Bk.cells (List.getD l i default)) i] (by kernel_rfl) (by kernel_rfl) ⟨rfl, rfl, rfl, rfl, (by omega), rfl, rfl, rfl, rfl, rfl, ⟨rfl, fun _ _ => rfl⟩, ⟨rfl, fun _ _ => rfl⟩, rfl, ⟨rfl, fun _ _ => rfl⟩, trivial⟩ (by omega) (by show _ < _; omega)
        · refine good_run 2 (obs := []) (by kernel_rfl) trivial ?_
          refine good_leaveJ (by kernel_rfl) ?_
          refine good_run 7 (obs := [InK IntKind.i64 ((↑i : Int) + (1 : Int))]) (by kernel_rfl) (by (first | omega | assumption | exact ⟨rfl, trivial⟩ | simp only [AllP, inK_iff, roomOK_iff, decide_eq_true_eq, Bool.and_eq_true, Bool.or_eq_true, Bool.not_eq_true', decide_eq_false_iff_not, and_true, true_and]; (first | omega | (and_intros <;> intros <;> (try and_intros) <;> first | omega | assumption | exact trivial)))) ?_
          refine good_backJ (i + 1) [b.ID = b.ID, b.Rd = b.Rd, b.F = b.F, b.U = b.U, (↑i : Int) + (1 : Int) = (↑(i + (1 : Nat)) : Int), (↑(List.length m) : Int) = (↑(List.length m) : Int), (0 : Int) = (0 : Int), List.length (l, (0 : Int)).fst = List.length (l, (0 : Int)).fst ∧ ∀ (i : Nat), i < List.length (l, (0 : Int)).fst → (fun i => Bk.cells (List.getD (l, (0 : Int)).fst i default)) i = (fun i => Bk.cells (List.getD (l, (0 : Int)).fst i default)) i, List.length m = List.length m ∧ ∀ (i : Nat), i < List.length m → (fun i => Bk.cells (List.getD m i default)) i = (fun i => Bk.cells (List.getD m i default)) i, s = s, List.length l = List.length l ∧ ∀ (i : Nat), i < List.length l → (fun i => Bk.cells (List.getD l i default)) i = (fun i => Bk.cells (List.getD l i default)) i] (by kernel_rfl) (by kernel_rfl) ⟨rfl, rfl, rfl, rfl, (by omega), rfl, rfl, ⟨rfl, fun _ _ => rfl⟩, ⟨rfl, fun _ _ => rfl⟩, rfl, ⟨rfl, fun _ _ => rfl⟩, trivial⟩ (by omega) (by show _ < _; omega)
      · refine good_run 2 (obs := []) (by kernel_rfl) trivial ?_
        refine good_leaveJ (by kernel_rfl) ?_
        refine good_run 5 (obs := []) (by kernel_rfl) trivial ?_
        refine good_own (c := True) (by kernel_rfl) (by kernel_rfl) (SVles.refl _) (s12 (List.length m) (fun i => Bk.cells (List.getD m i default)) (by (first | omega | assumption | exact ⟨rfl, trivial⟩ | simp only [AllP, inK_iff, roomOK_iff, decide_eq_true_eq, Bool.and_eq_true, Bool.or_eq_true, Bool.not_eq_true', decide_eq_false_iff_not, and_true, true_and]; (first | omega | (and_intros <;> intros <;> (try and_intros) <;> first | omega | assumption | exact trivial))))) ?_
        refine good_call (c := True) (by kernel_rfl) (fun _ => SVles.refl _) (fun _ => s14a) (by kernel_rfl) ?_
        refine good_run 9 (obs := []) (by kernel_rfl) trivial ?_
        refine good_call (c := (decide ((0 : Int) = (0 : Int)) && decide ((0 : Int) = (0 : Int))) = true ∧ True) (by kernel_rfl) (fun _ => SVles.refl _) (fun _ => s22a) (by kernel_rfl) ?_
        refine good_run 6 (obs := []) (by kernel_rfl) trivial ?_
        refine good_fin [(decide ((0 : Int) = (0 : Int)) && decide ((0 : Int) = (0 : Int)) && true) = true] (by kernel_rfl) ⟨(by rfl), trivial⟩
        all_goals skip
end Go.Sx.T
