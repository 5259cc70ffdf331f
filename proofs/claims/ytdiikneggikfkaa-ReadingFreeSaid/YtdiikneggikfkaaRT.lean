/- Contracts of functions of the program, each proved by running its code symbolically (RT). -/
import Derived.Test.YtdiikneggikfkaaRQ
namespace Go.Sx.T
open Go Go.Proofs Go.Sx
set_option maxRecDepth 100000
set_option maxHeartbeats 4000000
set_option linter.unusedVariables false
set_option linter.unusedSimpArgs false
/-! Apart. -/
theorem s5 (s : Int) (l : List Bk) : Spec Try.prog 5 [.int .i64 s, bks l] (.bool true) := by
  refine spec_of_good mixed Try.func5 F5_ok (by kernel_rfl) ?_
  refine good_run 8 (obs := []) (by kernel_rfl) trivial ?_
  refine good_call (c := True) (by kernel_rfl) (fun _ => SVles.refl _) (fun _ => s9) (by kernel_rfl) ?_
  refine good_run 3 (obs := []) (by kernel_rfl) trivial ?_
  refine good_cond false (by kernel_rfl) (fun h => nomatch h) (fun _ => ?_)
  refine good_run 5 (obs := []) (by kernel_rfl) trivial ?_
  refine good_call (c := True) (by kernel_rfl) (fun _ => SVles.refl _) (fun _ => s10 (l)) (by kernel_rfl) ?_
  refine good_run 3 (obs := []) (by kernel_rfl) trivial ?_
  refine good_cond (!decide ((↑(List.length l) : Int) ≤ (40 : Int))) (by kernel_rfl) (fun hc1 => ?_) (fun hc1 => ?_)
  · refine good_run 7 (obs := []) (by kernel_rfl) trivial ?_
    refine good_fin [true = true] (by kernel_rfl) ⟨rfl, trivial⟩
  · have hl := few40 hc1
    clear hc1
    by_cases h : checkL s l = 0
    · have hR := right_iff.1 h
      have e : seatingL s l = (seatsL l, 0) := by unfold seatingL; rw [if_neg (by simp [h])]
      have hsl := seats_len l
      have hp := peakL_is l
      have hmp := most_peak hR hp
      have hpl := right_load hR (peakL l).1
      rw [hp.load] at hpl
      have hpl2 := hp.load
      have hr : ∀ i, i < l.length → 0 ≤ (seatsL l).getD i 0 ∧ (seatsL l).getD i 0 < 32 := fun i hi => by
        obtain ⟨v, hv, h2, _⟩ := seats_range hR hi
        rw [hv]; omega
      have ha : ∀ i j, i < l.length → j < i → meetB (l.getD i default).F (l.getD i default).U (l.getD j default).F (l.getD j default).U = true → (seatsL l).getD i 0 ≠ (seatsL l).getD j 0 := fun i j hi hj hm => seats_apart hR hi (by omega) (by omega) hm
      have s23b := s23 s l
      rw [e] at s23b
      generalize seatsL l = S at hsl hmp hr ha s23b
      refine good_run 5 (obs := []) (by kernel_rfl) trivial ?_
      refine good_own (c := True) (by kernel_rfl) (by kernel_rfl) (SVles.refl _) (s12 (List.length l) (fun i => Bk.cells (List.getD l i default)) (by (first | omega | assumption | exact ⟨rfl, trivial⟩ | simp only [AllP, inK_iff, roomOK_iff, decide_eq_true_eq, Bool.and_eq_true, Bool.or_eq_true, Bool.not_eq_true', decide_eq_false_iff_not, and_true, true_and]; (first | omega | (and_intros <;> intros <;> (try and_intros) <;> first | omega | assumption | exact trivial))))) ?_
      refine good_call (c := True) (by kernel_rfl) (fun _ => SVles.refl _) (fun _ => s23b) (by kernel_rfl) ?_
      refine good_run 14 (obs := []) (by kernel_rfl) trivial ?_
      refine good_cond false (by kernel_rfl) (fun h => nomatch h) (fun _ => ?_)
      refine good_run 11 (obs := []) (by kernel_rfl) trivial ?_
      refine good_cond (!decide ((↑(List.length (S, (0 : Int)).fst) : Int) = (↑(List.length l) : Int))) (by kernel_rfl) (fun hc1 => ?_) (fun hc1 => ?_)
      · exfalso; simp only [Bool.not_eq_true', decide_eq_false_iff_not] at hc1; omega
      · clear hc1
        refine good_run 15 (obs := []) (by kernel_rfl) trivial ?_
        refine good_loopJ (fun i : Nat => ⟨[(36, .sv (.int .i64 (i))), (7, .sv (.int .i64 ((mostS (S.take i))))), (35, LV.sv (SV.int IntKind.i64 (↑(List.length l) : Int))), (5, LV.sv (SV.lst (1 : Nat) (List.length (S, (0 : Int)).fst) fun i => [SV.int IntKind.i64 (List.getD (S, (0 : Int)).fst i (0 : Int))])), (0, LV.sv (SV.int IntKind.i64 s)), (1, LV.sv (SV.lst (4 : Nat) (List.length l) fun i => Bk.cells (List.getD l i default)))], [Blk.row (31 : Nat) (4 : Nat) (List.length l) false fun i => Bk.cells (List.getD l i default)]⟩) (fun i => i ≤ l.length) (fun i => l.length - i) (0) [List.length l = List.length l ∧ ∀ (i : Nat), i < List.length l → (fun i => Bk.cells (List.getD l i default)) i = (fun i => Bk.cells (List.getD l i default)) i, (0 : Int) = (0 : Int), (0 : Int) = mostS [], (↑(List.length l) : Int) = (↑(List.length l) : Int), List.length (S, (0 : Int)).fst = List.length (S, (0 : Int)).fst ∧ ∀ (i : Nat), i < List.length (S, (0 : Int)).fst → (fun i => [SV.int IntKind.i64 (List.getD (S, (0 : Int)).fst i (0 : Int))]) i = (fun i => [SV.int IntKind.i64 (List.getD (S, (0 : Int)).fst i (0 : Int))]) i, s = s, List.length l = List.length l ∧ ∀ (i : Nat), i < List.length l → (fun i => Bk.cells (List.getD l i default)) i = (fun i => Bk.cells (List.getD l i default)) i] (by kernel_rfl) (by kernel_rfl) ⟨⟨rfl, fun _ _ => rfl⟩, rfl, (by rfl), rfl, ⟨rfl, fun _ _ => rfl⟩, rfl, ⟨rfl, fun _ _ => rfl⟩, trivial⟩ (by omega) ?_
        intro i hi
        refine good_run 6 (obs := []) (by kernel_rfl) trivial ?_
        refine good_cond (decide ((↑i : Int) < (↑(List.length l) : Int))) (by kernel_rfl) (fun hc1 => ?_) (fun hc1 => ?_)
        · have hlt : i < l.length := by simp only [decide_eq_true_eq] at hc1; omega
          obtain ⟨h1, h2⟩ := hr i hlt
          have hms : mostS (S.take (i + 1)) = max (mostS (S.take i)) (S.getD i 0 + 1) := by rw [take_snoc S 0 i (by omega), mostS_snoc]
          refine good_run 19 (obs := [(1 : Nat) = (1 : Nat) ∧ (0 : Int) ≤ (↑i : Int) ∧ (↑i : Int) < (↑(List.length (S, (0 : Int)).fst) : Int)]) (by kernel_rfl) (by (first | omega | assumption | exact ⟨rfl, trivial⟩ | simp only [AllP, inK_iff, roomOK_iff, decide_eq_true_eq, Bool.and_eq_true, Bool.or_eq_true, Bool.not_eq_true', decide_eq_false_iff_not, and_true, true_and]; (first | omega | (and_intros <;> intros <;> (try and_intros) <;> first | omega | assumption | exact trivial)))) ?_
          refine good_cond (decide (List.getD (S, (0 : Int)).fst i (0 : Int) < (0 : Int))) (by kernel_rfl) (fun hc2 => ?_) (fun hc2 => ?_)
          · exfalso; simp only [decide_eq_true_eq] at hc2; omega
          · clear hc2
            refine good_run 20 (obs := [(1 : Nat) = (1 : Nat) ∧ (0 : Int) ≤ (↑i : Int) ∧ (↑i : Int) < (↑(List.length (S, (0 : Int)).fst) : Int), InK IntKind.i64 (List.getD (S, (0 : Int)).fst i (0 : Int) + (1 : Int))]) (by kernel_rfl) (by (first | omega | assumption | exact ⟨rfl, trivial⟩ | simp only [AllP, inK_iff, roomOK_iff, decide_eq_true_eq, Bool.and_eq_true, Bool.or_eq_true, Bool.not_eq_true', decide_eq_false_iff_not, and_true, true_and]; (first | omega | (and_intros <;> intros <;> (try and_intros) <;> first | omega | assumption | exact trivial)))) ?_
            refine good_loopJ (fun k : Nat => ⟨[(52, .sv (.int .i64 (k))), (51, LV.sv (SV.int IntKind.i64 (↑i : Int))), (7, LV.sv (SV.int IntKind.i64 (max (mostS (List.take i S)) (List.getD (S, (0 : Int)).fst i (0 : Int) + (1 : Int))))), (8, LV.sv (SV.int IntKind.i64 (↑i : Int))), (36, LV.sv (SV.int IntKind.i64 (↑i : Int))), (35, LV.sv (SV.int IntKind.i64 (↑(List.length l) : Int))), (5, LV.sv (SV.lst (1 : Nat) (List.length (S, (0 : Int)).fst) fun i => [SV.int IntKind.i64 (List.getD (S, (0 : Int)).fst i (0 : Int))])), (0, LV.sv (SV.int IntKind.i64 s)), (1, LV.sv (SV.lst (4 : Nat) (List.length l) fun i => Bk.cells (List.getD l i default)))], [Blk.row (31 : Nat) (4 : Nat) (List.length l) false fun i => Bk.cells (List.getD l i default)]⟩) (fun k => k ≤ i) (fun k => i - k) (0) [List.length l = List.length l ∧ ∀ (i : Nat), i < List.length l → (fun i => Bk.cells (List.getD l i default)) i = (fun i => Bk.cells (List.getD l i default)) i, (0 : Int) = (0 : Int), (↑i : Int) = (↑i : Int), max (mostS (List.take i S)) (List.getD (S, (0 : Int)).fst i (0 : Int) + (1 : Int)) = max (mostS (List.take i S)) (List.getD (S, (0 : Int)).fst i (0 : Int) + (1 : Int)), (↑i : Int) = (↑i : Int), (↑i : Int) = (↑i : Int), (↑(List.length l) : Int) = (↑(List.length l) : Int), List.length (S, (0 : Int)).fst = List.length (S, (0 : Int)).fst ∧ ∀ (i : Nat), i < List.length (S, (0 : Int)).fst → (fun i => [SV.int IntKind.i64 (List.getD (S, (0 : Int)).fst i (0 : Int))]) i = (fun i => [SV.int IntKind.i64 (List.getD (S, (0 : Int)).fst i (0 : Int))]) i, s = s, List.length l = List.length l ∧ ∀ (i : Nat), i < List.length l → (fun i => Bk.cells (List.getD l i default)) i = (fun i => Bk.cells (List.getD l i default)) i] (by kernel_rfl) (by kernel_rfl) ⟨⟨rfl, fun _ _ => rfl⟩, rfl, rfl, rfl, rfl, rfl, rfl, ⟨rfl, fun _ _ => rfl⟩, rfl, ⟨rfl, fun _ _ => rfl⟩, trivial⟩ (by omega) ?_
            intro k hk
            refine good_run 6 (obs := []) (by kernel_rfl) trivial ?_
            refine good_cond (decide ((↑k : Int) < (↑i : Int))) (by kernel_rfl) (fun hc2 => ?_) (fun hc2 => ?_)
            · have hki : k < i := by simp only [decide_eq_true_eq] at hc2; omega
              refine good_run 29 (obs := [True → (1 : Nat) = (1 : Nat) ∧ (0 : Int) ≤ (↑i : Int) ∧ (↑i : Int) < (↑(List.length (S, (0 : Int)).fst) : Int), True → (1 : Nat) = (1 : Nat) ∧ (0 : Int) ≤ (↑k : Int) ∧ (↑k : Int) < (↑(List.length (S, (0 : Int)).fst) : Int), decide (List.getD (S, (0 : Int)).fst i (0 : Int) = List.getD (S, (0 : Int)).fst k (0 : Int)) = true ∧ True → (4 : Nat) = (4 : Nat) ∧ (0 : Int) ≤ (↑i : Int) ∧ (↑i : Int) < (↑(List.length l) : Int), decide (List.getD (S, (0 : Int)).fst i (0 : Int) = List.getD (S, (0 : Int)).fst k (0 : Int)) = true ∧ True → (0 : Nat) + (4 : Nat) ≤ (4 : Nat), decide (List.getD (S, (0 : Int)).fst i (0 : Int) = List.getD (S, (0 : Int)).fst k (0 : Int)) = true ∧ True → (4 : Nat) = (4 : Nat) ∧ (0 : Int) ≤ (↑k : Int) ∧ (↑k : Int) < (↑(List.length l) : Int), decide (List.getD (S, (0 : Int)).fst i (0 : Int) = List.getD (S, (0 : Int)).fst k (0 : Int)) = true ∧ True → (0 : Nat) + (4 : Nat) ≤ (4 : Nat)]) (by kernel_rfl) (by (first | omega | assumption | exact ⟨rfl, trivial⟩ | simp only [AllP, inK_iff, roomOK_iff, decide_eq_true_eq, Bool.and_eq_true, Bool.or_eq_true, Bool.not_eq_true', decide_eq_false_iff_not, and_true, true_and]; (first | omega | (and_intros <;> intros <;> (try and_intros) <;> first | omega | assumption | exact trivial)))) ?_
              refine good_call (c := decide (List.getD (S, (0 : Int)).fst i (0 : Int) = List.getD (S, (0 : Int)).fst k (0 : Int)) = true ∧ True) (by kernel_rfl) (fun _ => SVles.refl _) (fun _ => s24 (List.getD l i default) (List.getD l k default)) (by kernel_rfl) ?_
              refine good_run 3 (obs := []) (by kernel_rfl) trivial ?_
              refine good_cond (decide (List.getD (S, (0 : Int)).fst i (0 : Int) = List.getD (S, (0 : Int)).fst k (0 : Int)) && meetB (List.getD l i default).F (List.getD l i default).U (List.getD l k default).F (List.getD l k default).U) (by kernel_rfl) (fun hc3 => ?_) (fun hc3 => ?_)
              · exfalso
                simp only [Bool.and_eq_true, decide_eq_true_eq] at hc3
                exact ha i k hlt hki hc3.2 hc3.1
              · refine good_run 7 (obs := [InK IntKind.i64 ((↑k : Int) + (1 : Int))]) (by kernel_rfl) (by (first | omega | assumption | exact ⟨rfl, trivial⟩ | simp only [AllP, inK_iff, roomOK_iff, decide_eq_true_eq, Bool.and_eq_true, Bool.or_eq_true, Bool.not_eq_true', decide_eq_false_iff_not, and_true, true_and]; (first | omega | (and_intros <;> intros <;> (try and_intros) <;> first | omega | assumption | exact trivial)))) ?_
                refine good_backJ (k + 1) [List.length l = List.length l ∧ ∀ (i : Nat), i < List.length l → (fun i => Bk.cells (List.getD l i default)) i = (fun i => Bk.cells (List.getD l i default)) i, (↑k : Int) + (1 : Int) = (↑(k + (1 : Nat)) : Int), (↑i : Int) = (↑i : Int), max (mostS (List.take i S)) (List.getD (S, (0 : Int)).fst i (0 : Int) + (1 : Int)) = max (mostS (List.take i S)) (List.getD (S, (0 : Int)).fst i (0 : Int) + (1 : Int)), (↑i : Int) = (↑i : Int), (↑i : Int) = (↑i : Int), (↑(List.length l) : Int) = (↑(List.length l) : Int), List.length (S, (0 : Int)).fst = List.length (S, (0 : Int)).fst ∧ ∀ (i : Nat), i < List.length (S, (0 : Int)).fst → (fun i => [SV.int IntKind.i64 (List.getD (S, (0 : Int)).fst i (0 : Int))]) i = (fun i => [SV.int IntKind.i64 (List.getD (S, (0 : Int)).fst i (0 : Int))]) i, s = s, List.length l = List.length l ∧ ∀ (i : Nat), i < List.length l → (fun i => Bk.cells (List.getD l i default)) i = (fun i => Bk.cells (List.getD l i default)) i] (by kernel_rfl) (by kernel_rfl) ⟨⟨rfl, fun _ _ => rfl⟩, (by omega), rfl, rfl, rfl, rfl, rfl, ⟨rfl, fun _ _ => rfl⟩, rfl, ⟨rfl, fun _ _ => rfl⟩, trivial⟩ (by omega) (by show _ < _; omega)
            · refine good_run 2 (obs := []) (by kernel_rfl) trivial ?_
              refine good_leaveJ (by kernel_rfl) ?_
              refine good_run 7 (obs := [InK IntKind.i64 ((↑i : Int) + (1 : Int))]) (by kernel_rfl) (by (first | omega | assumption | exact ⟨rfl, trivial⟩ | simp only [AllP, inK_iff, roomOK_iff, decide_eq_true_eq, Bool.and_eq_true, Bool.or_eq_true, Bool.not_eq_true', decide_eq_false_iff_not, and_true, true_and]; (first | omega | (and_intros <;> intros <;> (try and_intros) <;> first | omega | assumption | exact trivial)))) ?_
              refine good_backJ (i + 1) [List.length l = List.length l ∧ ∀ (i : Nat), i < List.length l → (fun i => Bk.cells (List.getD l i default)) i = (fun i => Bk.cells (List.getD l i default)) i, (↑i : Int) + (1 : Int) = (↑(i + (1 : Nat)) : Int), max (mostS (List.take i S)) (List.getD (S, (0 : Int)).fst i (0 : Int) + (1 : Int)) = mostS (List.take (i + (1 : Nat)) S), (↑(List.length l) : Int) = (↑(List.length l) : Int), List.length (S, (0 : Int)).fst = List.length (S, (0 : Int)).fst ∧ ∀ (i : Nat), i < List.length (S, (0 : Int)).fst → (fun i => [SV.int IntKind.i64 (List.getD (S, (0 : Int)).fst i (0 : Int))]) i = (fun i => [SV.int IntKind.i64 (List.getD (S, (0 : Int)).fst i (0 : Int))]) i, s = s, List.length l = List.length l ∧ ∀ (i : Nat), i < List.length l → (fun i => Bk.cells (List.getD l i default)) i = (fun i => Bk.cells (List.getD l i default)) i] (by kernel_rfl) (by kernel_rfl) ⟨⟨rfl, fun _ _ => rfl⟩, (by omega), ?_, rfl, ⟨rfl, fun _ _ => rfl⟩, rfl, ⟨rfl, fun _ _ => rfl⟩, trivial⟩ (by omega) (by show _ < _; omega)
              exact hms.symm
        · have : i = l.length := by simp only [decide_eq_false_iff_not] at hc1; omega
          subst this
          have et : S.take l.length = S := by rw [← hsl]; exact List.take_length
          rw [et, hmp]
          refine good_run 2 (obs := []) (by kernel_rfl) trivial ?_
          refine good_leaveJ (by kernel_rfl) ?_
          refine good_run 4 (obs := []) (by kernel_rfl) trivial ?_
          refine good_own (c := True) (by kernel_rfl) (by kernel_rfl) (SVles.refl _) (s12 (List.length l) (fun i => Bk.cells (List.getD l i default)) (by (first | omega | assumption | exact ⟨rfl, trivial⟩ | simp only [AllP, inK_iff, roomOK_iff, decide_eq_true_eq, Bool.and_eq_true, Bool.or_eq_true, Bool.not_eq_true', decide_eq_false_iff_not, and_true, true_and]; (first | omega | (and_intros <;> intros <;> (try and_intros) <;> first | omega | assumption | exact trivial))))) ?_
          refine good_call (c := True) (by kernel_rfl) (fun _ => SVles.refl _) (fun _ => s11 (l) (by (first | omega | assumption | exact ⟨rfl, trivial⟩ | simp only [AllP, inK_iff, roomOK_iff, decide_eq_true_eq, Bool.and_eq_true, Bool.or_eq_true, Bool.not_eq_true', decide_eq_false_iff_not, and_true, true_and]; (first | omega | (and_intros <;> intros <;> (try and_intros) <;> first | omega | assumption | exact trivial))))) (by kernel_rfl) ?_
          refine good_run 20 (obs := []) (by kernel_rfl) trivial ?_
          refine good_call (c := (decide ((↑(peakL l).snd : Int) = (↑(peakL l).snd : Int)) && decide ((↑(peakL l).snd : Int) ≤ s)) = true ∧ True) (by kernel_rfl) (fun _ => SVles.refl _) (fun _ => SpecOwn.spec (s12 (List.length l) (fun i => Bk.cells (List.getD l i default)) (by (first | omega | assumption | exact ⟨rfl, trivial⟩ | simp only [AllP, inK_iff, roomOK_iff, decide_eq_true_eq, Bool.and_eq_true, Bool.or_eq_true, Bool.not_eq_true', decide_eq_false_iff_not, and_true, true_and]; (first | omega | (and_intros <;> intros <;> (try and_intros) <;> first | omega | assumption | exact trivial)))))) (by kernel_rfl) ?_
          refine good_run 3 (obs := []) (by kernel_rfl) trivial ?_
          refine good_call (c := (decide ((↑(peakL l).snd : Int) = (↑(peakL l).snd : Int)) && decide ((↑(peakL l).snd : Int) ≤ s)) = true ∧ True) (by kernel_rfl) (fun _ => SVles.refl _) (fun _ => s16 (l) ((peakL l).fst)) (by kernel_rfl) ?_
          refine good_run 8 (obs := []) (by kernel_rfl) trivial ?_
          refine good_fin [(decide ((↑(peakL l).snd : Int) = (↑(peakL l).snd : Int)) && decide ((↑(peakL l).snd : Int) ≤ s) && decide ((↑(loadL l (peakL l).fst) : Int) = (↑(peakL l).snd : Int))) = true] (by kernel_rfl) ⟨?_, trivial⟩
          simp only [Bool.and_eq_true, decide_eq_true_eq]
          exact ⟨⟨trivial, hpl⟩, by rw [hpl2]⟩
    · have e : seatingL s l = ([], 1) := by unfold seatingL; rw [if_pos h]
      have s23b := s23 s l
      rw [e] at s23b
      refine good_run 5 (obs := []) (by kernel_rfl) trivial ?_
      refine good_own (c := True) (by kernel_rfl) (by kernel_rfl) (SVles.refl _) (s12 (List.length l) (fun i => Bk.cells (List.getD l i default)) (by (first | omega | assumption | exact ⟨rfl, trivial⟩ | simp only [AllP, inK_iff, roomOK_iff, decide_eq_true_eq, Bool.and_eq_true, Bool.or_eq_true, Bool.not_eq_true', decide_eq_false_iff_not, and_true, true_and]; (first | omega | (and_intros <;> intros <;> (try and_intros) <;> first | omega | assumption | exact trivial))))) ?_
      refine good_call (c := True) (by kernel_rfl) (fun _ => SVles.refl _) (fun _ => s23b) (by kernel_rfl) ?_
      refine good_run 14 (obs := []) (by kernel_rfl) trivial ?_
      refine good_cond true (by kernel_rfl) (fun _ => ?_) (fun h => nomatch h)
      refine good_run 10 (obs := []) (by kernel_rfl) trivial ?_
      refine good_fin [decide ((0 : Int) = (0 : Int)) = true] (by kernel_rfl) ⟨(by assumption), trivial⟩
/-! Free. -/
theorem free_cases (s : Int) (l : List Bk) (r a days : Int) : freeD s l r a days = (0, 1) ∨ freeD s l r a days = (0, 2) ∨ (Right s l ∧ okId r = true ∧ 0 ≤ a ∧ a ≤ 1048575 ∧ 1 ≤ days ∧ days ≤ 1024 ∧
    ((∃ d, freeD s l r a days = (d, 0) ∧ a ≤ d ∧ fitD s l r days d = true ∧ ∀ x, a ≤ x → x < d → fitD s l r days x = false) ∨ (freeD s l r a days = (0, 12) ∧ ∀ x, a ≤ x → fitD s l r days x = false))) := by
  unfold freeD freeL
  by_cases h : checkL s l ≠ 0
  · rw [if_pos h]; exact .inl rfl
  · rw [if_neg h]
    have hR := right_iff.1 (Classical.not_not.1 h)
    by_cases h2 : (!okId r || decide (a < 0) || decide (1048575 < a) || decide (days < 1) || decide (1024 < days)) = true
    · rw [if_pos h2]; exact .inr (.inl rfl)
    · rw [if_neg h2]
      rw [Bool.not_eq_true] at h2
      simp only [Bool.or_eq_false_iff, decide_eq_false_iff_not, Bool.not_eq_false'] at h2
      obtain ⟨⟨⟨⟨k1, k2⟩, k3⟩, k4⟩, k5⟩ := h2
      refine .inr (.inr ⟨hR, k1, by omega, by omega, by omega, by omega, ?_⟩)
      have hs := isort_sorted (candL l a)
      have hm : ∀ x, x ∈ isort (candL l a) ↔ x ∈ candL l a := fun x => (isort_perm _).mem_iff
      have hno : ∀ x, a ≤ x → fitD s l r days x = true → ∃ d, (isort (candL l a)).find? (fitD s l r days) = some d ∧ d ≤ x := fun x hx hf => by
        obtain ⟨c, hc, hcx, hcf⟩ := fit_cand (by omega) hx hf
        obtain ⟨d, h1, h2, _⟩ := find_sorted hs ((hm c).2 hc) hcf
        exact ⟨d, h1, by omega⟩
      cases hfind : (isort (candL l a)).find? (fitD s l r days) with
      | none =>
        refine .inr ⟨rfl, fun x hx => Bool.eq_false_iff.2 fun hf => ?_⟩
        obtain ⟨d, h1, _⟩ := hno x hx hf
        rw [hfind] at h1; cases h1
      | some d =>
        refine .inl ⟨d, rfl, ?_, List.find?_some hfind, fun x hx hxd => Bool.eq_false_iff.2 fun hf => ?_⟩
        · rcases candL_mem.1 ((hm d).1 (List.mem_of_find?_eq_some hfind)) with e | ⟨b, _, h3, e⟩ <;> omega
        · obtain ⟨d', h1, h2⟩ := hno x hx hf
          rw [hfind] at h1
          injection h1 with h1
          omega
theorem s26 (d s r days : Int) (l : List Bk) (hl : l.length ≤ 40) (h1 : 0 ≤ d + days) (h2 : d + days ≤ 4194304) : Spec Try.prog 26 [.int .i64 d, .ref [.int .i64 s] 0, .ref [bks l] 0, .ref [.int .i64 r] 0, .ref [.int .i64 days] 0] (.int .i64 (admitL s l ⟨1073741824, r, d, d + days⟩).2) := by
  refine spec_of_good mixed Try.func26 F26_ok (by kernel_rfl) ?_
  have s18b := s18 s l ⟨1073741824, r, d, d + days⟩
  refine good_run 9 (obs := []) (by kernel_rfl) trivial ?_
  refine good_call (c := True) (by kernel_rfl) (fun _ => SVles.refl _) (fun _ => SpecOwn.spec (s12 (List.length l) (fun i => Bk.cells (List.getD l i default)) (by (first | omega | assumption | exact ⟨rfl, trivial⟩ | simp only [AllP, inK_iff, roomOK_iff, decide_eq_true_eq, Bool.and_eq_true, Bool.or_eq_true, Bool.not_eq_true', decide_eq_false_iff_not, and_true, true_and]; (first | omega | (and_intros <;> intros <;> (try and_intros) <;> first | omega | assumption | exact trivial)))))) (by kernel_rfl) ?_
  refine good_run 7 (obs := [True → InK IntKind.i64 (d + days)]) (by kernel_rfl) (by (first | omega | assumption | exact ⟨rfl, trivial⟩ | simp only [AllP, inK_iff, roomOK_iff, decide_eq_true_eq, Bool.and_eq_true, Bool.or_eq_true, Bool.not_eq_true', decide_eq_false_iff_not, and_true, true_and]; (first | omega | (and_intros <;> intros <;> (try and_intros) <;> first | omega | assumption | exact trivial)))) ?_
  refine good_call (c := True) (by kernel_rfl) (fun _ => SVles.refl _) (fun _ => s18b) (by kernel_rfl) ?_
  refine good_run 14 (obs := []) (by kernel_rfl) trivial ?_
  refine good_fin [(admitL s l { ID := (1073741824 : Int), Rd := r, F := d, U := d + days }).snd = (admitL s l { ID := (1073741824 : Int), Rd := r, F := d, U := d + days }).snd] (by kernel_rfl) ⟨rfl, trivial⟩
theorem _root_.Go.Sx.Spec.of_args {P : Program} {f : FuncId} {args args' : List SV} {r : SV} (hs : Spec P f args' r) (h : SVles args args') : Spec P f args r := by
  obtain ⟨h1, h2⟩ := svles_get args args' h
  refine ⟨hs.1, fun w M vs hM hl hd => hs.2 w M vs hM (h1 ▸ hl) fun i s v hi hv => ?_⟩
  obtain ⟨s0, hs0, hle⟩ := h2 i s hi
  exact hle _ _ _ (hd i s0 v hs0 hv)
theorem svle_int_val (k : IntKind) (n : Int) : SVle (.int k n) (.val (.int k n)) := by
  intro w M v h; cases h; exact .val _
def wrapA (x : Int) : Int := max x (IntKind.i64.wrap (0 - IntKind.i64.wrap (x + 1)))
theorem wrapA_nonneg {x : Int} (h : InK .i64 x) : 0 ≤ wrapA x := by
  rw [inK_iff] at h
  unfold wrapA IntKind.wrap
  simp [IntKind.bits, IntKind.signed]
  omega
theorem s7 (s : Int) (l : List Bk) (r a days x : Int) (hx : InK .i64 x) : Spec Try.prog 7 [.int .i64 s, bks l, .agg [.int .i64 r, .int .i64 a, .int .i64 days, .val (.int .i64 x)]] (.bool true) := by
  refine spec_of_good mixed Try.func7 F7_ok (by kernel_rfl) ?_
  have hw := wrapA_nonneg hx
  unfold wrapA at hw
  refine good_run 11 (obs := []) (by kernel_rfl) trivial ?_
  refine good_call (c := True) (by kernel_rfl) (fun _ => SVles.refl _) (fun _ => s9) (by kernel_rfl) ?_
  refine good_run 3 (obs := []) (by kernel_rfl) trivial ?_
  refine good_cond false (by kernel_rfl) (fun h => nomatch h) (fun _ => ?_)
  refine good_run 4 (obs := []) (by kernel_rfl) trivial ?_
  refine good_set2 [3, 4, 5, 7, 8, 9, 16, 17, 18, 19, 20, 21, 39, 40, 48, 49, 50, 51, 52, 53, 54, 55, 65, 66, 67, 68, 74, 75, 76, 77, 78, 79, 80, 81, 82, 83, 84, 85, 86, 87, 88, 89] [] (6, 7) true [(0 : Int) ≤ (0 : Int) ∧ (0 : Int) < (4 : Int), (0 : Int) ≤ (1 : Int) ∧ (1 : Int) < (4 : Int), (0 : Int) ≤ (2 : Int) ∧ (2 : Int) < (4 : Int), (1 : Nat) = (1 : Nat) ∧ (0 : Nat) + (1 : Nat) ≤ (1 : Nat), (1 : Nat) = (1 : Nat) ∧ (0 : Nat) + (1 : Nat) ≤ (1 : Nat)] (by kernel_rfl) (by (first | omega | assumption | exact ⟨rfl, trivial⟩ | simp only [AllP, inK_iff, roomOK_iff, decide_eq_true_eq, Bool.and_eq_true, Bool.or_eq_true, Bool.not_eq_true', decide_eq_false_iff_not, and_true, true_and]; (first | omega | (and_intros <;> intros <;> (try and_intros) <;> first | omega | assumption | exact trivial)))) ?_ ?_
  · refine good_run 5 (obs := []) (by kernel_rfl) trivial ?_
    refine good_call (c := True) (by kernel_rfl) (fun _ => SVles.refl _) (fun _ => s10 (l)) (by kernel_rfl) ?_
    refine good_run 3 (obs := []) (by kernel_rfl) trivial ?_
    refine good_cond (!decide ((↑(List.length l) : Int) ≤ (40 : Int))) (by kernel_rfl) (fun hc1 => ?_) (fun hc1 => ?_)
    · refine good_run 7 (obs := []) (by kernel_rfl) trivial ?_
      refine good_fin [true = true] (by kernel_rfl) ⟨rfl, trivial⟩
    · have hl := few40 hc1
      clear hc1
      rcases free_cases s l r a days with e | e | ⟨hR, hr, ha0, ha1, hd1, hd2, hf⟩
      · have s25c := s25 s l r a days
        rw [e] at s25c
        refine good_run 5 (obs := []) (by kernel_rfl) trivial ?_
        refine good_call (c := True) (by kernel_rfl) (fun _ => SVles.refl _) (fun _ => SpecOwn.spec (s12 (List.length l) (fun i => Bk.cells (List.getD l i default)) (by (first | omega | assumption | exact ⟨rfl, trivial⟩ | simp only [AllP, inK_iff, roomOK_iff, decide_eq_true_eq, Bool.and_eq_true, Bool.or_eq_true, Bool.not_eq_true', decide_eq_false_iff_not, and_true, true_and]; (first | omega | (and_intros <;> intros <;> (try and_intros) <;> first | omega | assumption | exact trivial)))))) (by kernel_rfl) ?_
        refine good_run 4 (obs := []) (by kernel_rfl) trivial ?_
        refine good_call (c := True) (by kernel_rfl) (fun _ => SVles.refl _) (fun _ => s25c) (by kernel_rfl) ?_
        refine good_run 18 (obs := []) (by kernel_rfl) trivial ?_
        refine good_cond true (by kernel_rfl) (fun _ => ?_) (fun h => nomatch h)
        refine good_run 9 (obs := []) (by kernel_rfl) trivial ?_
        refine good_fin [decide ((0 : Int) = (0 : Int)) = true] (by kernel_rfl) ⟨(by assumption), trivial⟩
      · have s25c := s25 s l r a days
        rw [e] at s25c
        refine good_run 5 (obs := []) (by kernel_rfl) trivial ?_
        refine good_call (c := True) (by kernel_rfl) (fun _ => SVles.refl _) (fun _ => SpecOwn.spec (s12 (List.length l) (fun i => Bk.cells (List.getD l i default)) (by (first | omega | assumption | exact ⟨rfl, trivial⟩ | simp only [AllP, inK_iff, roomOK_iff, decide_eq_true_eq, Bool.and_eq_true, Bool.or_eq_true, Bool.not_eq_true', decide_eq_false_iff_not, and_true, true_and]; (first | omega | (and_intros <;> intros <;> (try and_intros) <;> first | omega | assumption | exact trivial)))))) (by kernel_rfl) ?_
        refine good_run 4 (obs := []) (by kernel_rfl) trivial ?_
        refine good_call (c := True) (by kernel_rfl) (fun _ => SVles.refl _) (fun _ => s25c) (by kernel_rfl) ?_
        refine good_run 18 (obs := []) (by kernel_rfl) trivial ?_
        refine good_cond true (by kernel_rfl) (fun _ => ?_) (fun h => nomatch h)
        refine good_run 9 (obs := []) (by kernel_rfl) trivial ?_
        refine good_fin [decide ((0 : Int) = (0 : Int)) = true] (by kernel_rfl) ⟨(by assumption), trivial⟩
      · have hla : ((l.length : Int) - 1).toNat = l.length - 1 := by omega
        rcases hf with ⟨d, e, had, hfd, hno⟩ | ⟨e, hno⟩
        · have s25c := s25 s l r a days
          rw [e] at s25c
          refine good_run 5 (obs := []) (by kernel_rfl) trivial ?_
          refine good_call (c := True) (by kernel_rfl) (fun _ => SVles.refl _) (fun _ => SpecOwn.spec (s12 (List.length l) (fun i => Bk.cells (List.getD l i default)) (by (first | omega | assumption | exact ⟨rfl, trivial⟩ | simp only [AllP, inK_iff, roomOK_iff, decide_eq_true_eq, Bool.and_eq_true, Bool.or_eq_true, Bool.not_eq_true', decide_eq_false_iff_not, and_true, true_and]; (first | omega | (and_intros <;> intros <;> (try and_intros) <;> first | omega | assumption | exact trivial)))))) (by kernel_rfl) ?_
          refine good_run 4 (obs := []) (by kernel_rfl) trivial ?_
          refine good_call (c := True) (by kernel_rfl) (fun _ => SVles.refl _) (fun _ => s25c) (by kernel_rfl) ?_
          refine good_run 18 (obs := []) (by kernel_rfl) trivial ?_
          refine good_cond false (by kernel_rfl) (fun h => nomatch h) (fun _ => ?_)
          refine good_run 19 (obs := [decide ((0 : Int) < (↑(List.length l) : Int)) = true ∧ True → InK IntKind.i64 ((↑(List.length l) : Int) - (1 : Int)), decide ((0 : Int) < (↑(List.length l) : Int)) = true ∧ True → (4 : Nat) = (4 : Nat) ∧ (0 : Int) ≤ (↑(List.length l) : Int) - (1 : Int) ∧ (↑(List.length l) : Int) - (1 : Int) < (↑(List.length l) : Int)]) (by kernel_rfl) (by (first | omega | assumption | exact ⟨rfl, trivial⟩ | simp only [AllP, inK_iff, roomOK_iff, decide_eq_true_eq, Bool.and_eq_true, Bool.or_eq_true, Bool.not_eq_true', decide_eq_false_iff_not, and_true, true_and]; (first | omega | (and_intros <;> intros <;> (try and_intros) <;> first | omega | assumption | exact trivial)))) ?_
          refine good_cond (decide ((0 : Int) < (↑(List.length l) : Int)) && decide ((1073741824 : Int) ≤ (List.getD l (Int.toNat ((↑(List.length l) : Int) - (1 : Int))) default).ID)) (by kernel_rfl) (fun hc1 => ?_) (fun hc1 => ?_)
          · refine good_run 7 (obs := []) (by kernel_rfl) trivial ?_
            refine good_fin [true = true] (by kernel_rfl) ⟨rfl, trivial⟩
          · have hlast : ¬ (0 < l.length ∧ 1073741824 ≤ (lastB l).ID) := by
              rw [hla] at hc1
              intro h
              rw [Bool.and_eq_false_iff, decide_eq_false_iff_not, decide_eq_false_iff_not] at hc1
              rcases hc1 with h1 | h1
              · omega
              · exact h1 h.2
            clear hc1
            have htry := fun q => try_iff (d := q) (days := days) hR hl hr hlast
            have hsp := okSpan_iff.1 (fitD_iff.1 hfd).1
            have hm : a < d → 0 ≤ max x (IntKind.i64.wrap (0 - IntKind.i64.wrap (x + 1))) % (d - a) ∧ max x (IntKind.i64.wrap (0 - IntKind.i64.wrap (x + 1))) % (d - a) < d - a := fun h => ⟨Int.emod_nonneg _ (by omega), Int.emod_lt_of_pos _ (by omega)⟩
            refine good_run 20 (obs := []) (by kernel_rfl) trivial ?_
            refine good_cond false (by kernel_rfl) (fun h => nomatch h) (fun _ => ?_)
            refine good_run 9 (obs := []) (by kernel_rfl) trivial ?_
            refine good_call (c := decide (d < a) = false ∧ True) (by kernel_rfl) (fun _ => SVles.refl _) (fun _ => s26 (d) (s) (r) (days) (l) (by (first | omega | assumption | exact ⟨rfl, trivial⟩ | simp only [AllP, inK_iff, roomOK_iff, decide_eq_true_eq, Bool.and_eq_true, Bool.or_eq_true, Bool.not_eq_true', decide_eq_false_iff_not, and_true, true_and]; (first | omega | (and_intros <;> intros <;> (try and_intros) <;> first | omega | assumption | exact trivial)))) (by (first | omega | assumption | exact ⟨rfl, trivial⟩ | simp only [AllP, inK_iff, roomOK_iff, decide_eq_true_eq, Bool.and_eq_true, Bool.or_eq_true, Bool.not_eq_true', decide_eq_false_iff_not, and_true, true_and]; (first | omega | (and_intros <;> intros <;> (try and_intros) <;> first | omega | assumption | exact trivial)))) (by (first | omega | assumption | exact ⟨rfl, trivial⟩ | simp only [AllP, inK_iff, roomOK_iff, decide_eq_true_eq, Bool.and_eq_true, Bool.or_eq_true, Bool.not_eq_true', decide_eq_false_iff_not, and_true, true_and]; (first | omega | (and_intros <;> intros <;> (try and_intros) <;> first | omega | assumption | exact trivial))))) (by kernel_rfl) ?_
            refine good_run 5 (obs := []) (by kernel_rfl) trivial ?_
            refine good_cond (decide (d < a) || !decide ((admitL s l { ID := (1073741824 : Int), Rd := r, F := d, U := d + days }).snd = (0 : Int))) (by kernel_rfl) (fun hc1 => ?_) (fun hc1 => ?_)
            · exfalso
              rw [(htry d).2 hfd] at hc1
              simp only [Bool.or_eq_true, decide_eq_true_eq, Bool.not_eq_true', decide_eq_false_iff_not] at hc1
              rcases hc1 with h | h
              · omega
              · exact h trivial
            · clear hc1
              refine good_run 22 (obs := [decide (d ≤ a) = false ∧ True → (0 : Int) ≤ (3 : Int) ∧ (3 : Int) < (4 : Int), decide (d ≤ a) = false ∧ True → (0 : Int) ≤ (3 : Int) ∧ (3 : Int) < (4 : Int), decide (d ≤ a) = false ∧ True → True, decide (d ≤ a) = false ∧ True → True, decide (d ≤ a) = false ∧ True → InK IntKind.i64 (d - a), decide (d ≤ a) = false ∧ True → (0 : Int) ≤ max x (IntKind.wrap IntKind.i64 ((0 : Int) - IntKind.wrap IntKind.i64 (x + (1 : Int)))) ∧ (0 : Int) < d - a, decide (d ≤ a) = false ∧ True → InK IntKind.i64 (a + max x (IntKind.wrap IntKind.i64 ((0 : Int) - IntKind.wrap IntKind.i64 (x + (1 : Int)))) % (d - a))]) (by kernel_rfl) (by (first | omega | assumption | exact ⟨rfl, trivial⟩ | simp only [AllP, inK_iff, roomOK_iff, decide_eq_true_eq, Bool.and_eq_true, Bool.or_eq_true, Bool.not_eq_true', decide_eq_false_iff_not, and_true, true_and]; (first | omega | (and_intros <;> intros <;> (try and_intros) <;> first | omega | assumption | exact trivial)))) ?_
              refine good_call (c := decide (d ≤ a) = false ∧ True) (by kernel_rfl) (fun _ => SVles.refl _) (fun _ => s26 (a + max x (IntKind.wrap IntKind.i64 ((0 : Int) - IntKind.wrap IntKind.i64 (x + (1 : Int)))) % (d - a)) (s) (r) (days) (l) ?_ ?_ ?_) (by kernel_rfl) ?_
              · exact hl
              · rename_i g
                have h3 := hm (by have := of_decide_eq_false g.1; omega)
                omega
              · rename_i g
                have h3 := hm (by have := of_decide_eq_false g.1; omega)
                omega
              refine good_run 7 (obs := []) (by kernel_rfl) trivial ?_
              refine good_fin [(decide (d ≤ a) || !decide ((admitL s l { ID := (1073741824 : Int), Rd := r, F := a + max x (IntKind.wrap IntKind.i64 ((0 : Int) - IntKind.wrap IntKind.i64 (x + (1 : Int)))) % (d - a), U := a + max x (IntKind.wrap IntKind.i64 ((0 : Int) - IntKind.wrap IntKind.i64 (x + (1 : Int)))) % (d - a) + days }).snd = (0 : Int))) = true] (by kernel_rfl) ⟨?_, trivial⟩
              rw [Bool.or_eq_true]
              by_cases hda : d ≤ a
              · exact .inl (decide_eq_true hda)
              · refine .inr ?_
                obtain ⟨h1, h2⟩ := hm (by omega)
                rw [Bool.not_eq_true', decide_eq_false_iff_not, htry, hno _ (by omega) (by omega)]
                decide
        · have s25c := s25 s l r a days
          rw [e] at s25c
          refine good_run 5 (obs := []) (by kernel_rfl) trivial ?_
          refine good_call (c := True) (by kernel_rfl) (fun _ => SVles.refl _) (fun _ => SpecOwn.spec (s12 (List.length l) (fun i => Bk.cells (List.getD l i default)) (by (first | omega | assumption | exact ⟨rfl, trivial⟩ | simp only [AllP, inK_iff, roomOK_iff, decide_eq_true_eq, Bool.and_eq_true, Bool.or_eq_true, Bool.not_eq_true', decide_eq_false_iff_not, and_true, true_and]; (first | omega | (and_intros <;> intros <;> (try and_intros) <;> first | omega | assumption | exact trivial)))))) (by kernel_rfl) ?_
          refine good_run 4 (obs := []) (by kernel_rfl) trivial ?_
          refine good_call (c := True) (by kernel_rfl) (fun _ => SVles.refl _) (fun _ => s25c) (by kernel_rfl) ?_
          refine good_run 18 (obs := []) (by kernel_rfl) trivial ?_
          refine good_cond false (by kernel_rfl) (fun h => nomatch h) (fun _ => ?_)
          refine good_run 19 (obs := [decide ((0 : Int) < (↑(List.length l) : Int)) = true ∧ True → InK IntKind.i64 ((↑(List.length l) : Int) - (1 : Int)), decide ((0 : Int) < (↑(List.length l) : Int)) = true ∧ True → (4 : Nat) = (4 : Nat) ∧ (0 : Int) ≤ (↑(List.length l) : Int) - (1 : Int) ∧ (↑(List.length l) : Int) - (1 : Int) < (↑(List.length l) : Int)]) (by kernel_rfl) (by (first | omega | assumption | exact ⟨rfl, trivial⟩ | simp only [AllP, inK_iff, roomOK_iff, decide_eq_true_eq, Bool.and_eq_true, Bool.or_eq_true, Bool.not_eq_true', decide_eq_false_iff_not, and_true, true_and]; (first | omega | (and_intros <;> intros <;> (try and_intros) <;> first | omega | assumption | exact trivial)))) ?_
          refine good_cond (decide ((0 : Int) < (↑(List.length l) : Int)) && decide ((1073741824 : Int) ≤ (List.getD l (Int.toNat ((↑(List.length l) : Int) - (1 : Int))) default).ID)) (by kernel_rfl) (fun hc1 => ?_) (fun hc1 => ?_)
          · refine good_run 7 (obs := []) (by kernel_rfl) trivial ?_
            refine good_fin [true = true] (by kernel_rfl) ⟨rfl, trivial⟩
          · have hlast : ¬ (0 < l.length ∧ 1073741824 ≤ (lastB l).ID) := by
              rw [hla] at hc1
              intro h
              rw [Bool.and_eq_false_iff, decide_eq_false_iff_not, decide_eq_false_iff_not] at hc1
              rcases hc1 with h1 | h1
              · omega
              · exact h1 h.2
            clear hc1
            have htry := fun q => try_iff (d := q) (days := days) hR hl hr hlast
            have h1 : 0 ≤ max x (IntKind.i64.wrap (0 - IntKind.i64.wrap (x + 1))) % (1048576 - a) := Int.emod_nonneg _ (by omega)
            have h2 : max x (IntKind.i64.wrap (0 - IntKind.i64.wrap (x + 1))) % (1048576 - a) < 1048576 - a := Int.emod_lt_of_pos _ (by omega)
            refine good_run 20 (obs := []) (by kernel_rfl) trivial ?_
            refine good_cond true (by kernel_rfl) (fun _ => ?_) (fun h => nomatch h)
            refine good_run 25 (obs := [decide ((1048576 : Int) ≤ a) = false ∧ True → (0 : Int) ≤ (3 : Int) ∧ (3 : Int) < (4 : Int), decide ((1048576 : Int) ≤ a) = false ∧ True → (0 : Int) ≤ (3 : Int) ∧ (3 : Int) < (4 : Int), decide ((1048576 : Int) ≤ a) = false ∧ True → True, decide ((1048576 : Int) ≤ a) = false ∧ True → True, decide ((1048576 : Int) ≤ a) = false ∧ True → InK IntKind.i64 ((1048576 : Int) - a), decide ((1048576 : Int) ≤ a) = false ∧ True → (0 : Int) ≤ max x (IntKind.wrap IntKind.i64 ((0 : Int) - IntKind.wrap IntKind.i64 (x + (1 : Int)))) ∧ (0 : Int) < (1048576 : Int) - a, decide ((1048576 : Int) ≤ a) = false ∧ True → InK IntKind.i64 (a + max x (IntKind.wrap IntKind.i64 ((0 : Int) - IntKind.wrap IntKind.i64 (x + (1 : Int)))) % ((1048576 : Int) - a))]) (by kernel_rfl) (by (first | omega | assumption | exact ⟨rfl, trivial⟩ | simp only [AllP, inK_iff, roomOK_iff, decide_eq_true_eq, Bool.and_eq_true, Bool.or_eq_true, Bool.not_eq_true', decide_eq_false_iff_not, and_true, true_and]; (first | omega | (and_intros <;> intros <;> (try and_intros) <;> first | omega | assumption | exact trivial)))) ?_
            refine good_call (c := decide ((1048576 : Int) ≤ a) = false ∧ True) (by kernel_rfl) (fun _ => SVles.refl _) (fun _ => s26 (a + max x (IntKind.wrap IntKind.i64 ((0 : Int) - IntKind.wrap IntKind.i64 (x + (1 : Int)))) % ((1048576 : Int) - a)) (s) (r) (days) (l) (by (first | omega | assumption | exact ⟨rfl, trivial⟩ | simp only [AllP, inK_iff, roomOK_iff, decide_eq_true_eq, Bool.and_eq_true, Bool.or_eq_true, Bool.not_eq_true', decide_eq_false_iff_not, and_true, true_and]; (first | omega | (and_intros <;> intros <;> (try and_intros) <;> first | omega | assumption | exact trivial)))) (by (first | omega | assumption | exact ⟨rfl, trivial⟩ | simp only [AllP, inK_iff, roomOK_iff, decide_eq_true_eq, Bool.and_eq_true, Bool.or_eq_true, Bool.not_eq_true', decide_eq_false_iff_not, and_true, true_and]; (first | omega | (and_intros <;> intros <;> (try and_intros) <;> first | omega | assumption | exact trivial)))) (by (first | omega | assumption | exact ⟨rfl, trivial⟩ | simp only [AllP, inK_iff, roomOK_iff, decide_eq_true_eq, Bool.and_eq_true, Bool.or_eq_true, Bool.not_eq_true', decide_eq_false_iff_not, and_true, true_and]; (first | omega | (and_intros <;> intros <;> (try and_intros) <;> first | omega | assumption | exact trivial))))) (by kernel_rfl) ?_
            refine good_run 7 (obs := []) (by kernel_rfl) trivial ?_
            refine good_fin [(decide ((1048576 : Int) ≤ a) || !decide ((admitL s l { ID := (1073741824 : Int), Rd := r, F := a + max x (IntKind.wrap IntKind.i64 ((0 : Int) - IntKind.wrap IntKind.i64 (x + (1 : Int)))) % ((1048576 : Int) - a), U := a + max x (IntKind.wrap IntKind.i64 ((0 : Int) - IntKind.wrap IntKind.i64 (x + (1 : Int)))) % ((1048576 : Int) - a) + days }).snd = (0 : Int))) = true] (by kernel_rfl) ⟨?_, trivial⟩
            rw [Bool.or_eq_true]
            refine .inr ?_
            rw [Bool.not_eq_true', decide_eq_false_iff_not, htry, hno _ (by omega)]
            decide
  · refine good_run 5 (obs := []) (by kernel_rfl) trivial ?_
    refine good_call (c := True) (by kernel_rfl) (fun _ => SVles.refl _) (fun _ => s10 (l)) (by kernel_rfl) ?_
    refine good_run 3 (obs := []) (by kernel_rfl) trivial ?_
    refine good_cond (!decide ((↑(List.length l) : Int) ≤ (40 : Int))) (by kernel_rfl) (fun hc1 => ?_) (fun hc1 => ?_)
    · refine good_run 7 (obs := []) (by kernel_rfl) trivial ?_
      refine good_fin [true = true] (by kernel_rfl) ⟨rfl, trivial⟩
    · have hl := few40 hc1
      clear hc1
      rcases free_cases s l r a days with e | e | ⟨hR, hr, ha0, ha1, hd1, hd2, hf⟩
      · have s25c := s25 s l r a days
        rw [e] at s25c
        refine good_run 5 (obs := []) (by kernel_rfl) trivial ?_
        refine good_call (c := True) (by kernel_rfl) (fun _ => SVles.refl _) (fun _ => SpecOwn.spec (s12 (List.length l) (fun i => Bk.cells (List.getD l i default)) (by (first | omega | assumption | exact ⟨rfl, trivial⟩ | simp only [AllP, inK_iff, roomOK_iff, decide_eq_true_eq, Bool.and_eq_true, Bool.or_eq_true, Bool.not_eq_true', decide_eq_false_iff_not, and_true, true_and]; (first | omega | (and_intros <;> intros <;> (try and_intros) <;> first | omega | assumption | exact trivial)))))) (by kernel_rfl) ?_
        refine good_run 4 (obs := []) (by kernel_rfl) trivial ?_
        refine good_call (c := True) (by kernel_rfl) (fun _ => SVles.refl _) (fun _ => s25c) (by kernel_rfl) ?_
        refine good_run 18 (obs := []) (by kernel_rfl) trivial ?_
        refine good_cond true (by kernel_rfl) (fun _ => ?_) (fun h => nomatch h)
        refine good_run 9 (obs := []) (by kernel_rfl) trivial ?_
        refine good_fin [decide ((0 : Int) = (0 : Int)) = true] (by kernel_rfl) ⟨(by assumption), trivial⟩
      · have s25c := s25 s l r a days
        rw [e] at s25c
        refine good_run 5 (obs := []) (by kernel_rfl) trivial ?_
        refine good_call (c := True) (by kernel_rfl) (fun _ => SVles.refl _) (fun _ => SpecOwn.spec (s12 (List.length l) (fun i => Bk.cells (List.getD l i default)) (by (first | omega | assumption | exact ⟨rfl, trivial⟩ | simp only [AllP, inK_iff, roomOK_iff, decide_eq_true_eq, Bool.and_eq_true, Bool.or_eq_true, Bool.not_eq_true', decide_eq_false_iff_not, and_true, true_and]; (first | omega | (and_intros <;> intros <;> (try and_intros) <;> first | omega | assumption | exact trivial)))))) (by kernel_rfl) ?_
        refine good_run 4 (obs := []) (by kernel_rfl) trivial ?_
        refine good_call (c := True) (by kernel_rfl) (fun _ => SVles.refl _) (fun _ => s25c) (by kernel_rfl) ?_
        refine good_run 18 (obs := []) (by kernel_rfl) trivial ?_
        refine good_cond true (by kernel_rfl) (fun _ => ?_) (fun h => nomatch h)
        refine good_run 9 (obs := []) (by kernel_rfl) trivial ?_
        refine good_fin [decide ((0 : Int) = (0 : Int)) = true] (by kernel_rfl) ⟨(by assumption), trivial⟩
      · have hla : ((l.length : Int) - 1).toNat = l.length - 1 := by omega
        rcases hf with ⟨d, e, had, hfd, hno⟩ | ⟨e, hno⟩
        · have s25c := s25 s l r a days
          rw [e] at s25c
          refine good_run 5 (obs := []) (by kernel_rfl) trivial ?_
          refine good_call (c := True) (by kernel_rfl) (fun _ => SVles.refl _) (fun _ => SpecOwn.spec (s12 (List.length l) (fun i => Bk.cells (List.getD l i default)) (by (first | omega | assumption | exact ⟨rfl, trivial⟩ | simp only [AllP, inK_iff, roomOK_iff, decide_eq_true_eq, Bool.and_eq_true, Bool.or_eq_true, Bool.not_eq_true', decide_eq_false_iff_not, and_true, true_and]; (first | omega | (and_intros <;> intros <;> (try and_intros) <;> first | omega | assumption | exact trivial)))))) (by kernel_rfl) ?_
          refine good_run 4 (obs := []) (by kernel_rfl) trivial ?_
          refine good_call (c := True) (by kernel_rfl) (fun _ => SVles.refl _) (fun _ => s25c) (by kernel_rfl) ?_
          refine good_run 18 (obs := []) (by kernel_rfl) trivial ?_
          refine good_cond false (by kernel_rfl) (fun h => nomatch h) (fun _ => ?_)
          refine good_run 19 (obs := [decide ((0 : Int) < (↑(List.length l) : Int)) = true ∧ True → InK IntKind.i64 ((↑(List.length l) : Int) - (1 : Int)), decide ((0 : Int) < (↑(List.length l) : Int)) = true ∧ True → (4 : Nat) = (4 : Nat) ∧ (0 : Int) ≤ (↑(List.length l) : Int) - (1 : Int) ∧ (↑(List.length l) : Int) - (1 : Int) < (↑(List.length l) : Int)]) (by kernel_rfl) (by (first | omega | assumption | exact ⟨rfl, trivial⟩ | simp only [AllP, inK_iff, roomOK_iff, decide_eq_true_eq, Bool.and_eq_true, Bool.or_eq_true, Bool.not_eq_true', decide_eq_false_iff_not, and_true, true_and]; (first | omega | (and_intros <;> intros <;> (try and_intros) <;> first | omega | assumption | exact trivial)))) ?_
          refine good_cond (decide ((0 : Int) < (↑(List.length l) : Int)) && decide ((1073741824 : Int) ≤ (List.getD l (Int.toNat ((↑(List.length l) : Int) - (1 : Int))) default).ID)) (by kernel_rfl) (fun hc1 => ?_) (fun hc1 => ?_)
          · refine good_run 7 (obs := []) (by kernel_rfl) trivial ?_
            refine good_fin [true = true] (by kernel_rfl) ⟨rfl, trivial⟩
          · have hlast : ¬ (0 < l.length ∧ 1073741824 ≤ (lastB l).ID) := by
              rw [hla] at hc1
              intro h
              rw [Bool.and_eq_false_iff, decide_eq_false_iff_not, decide_eq_false_iff_not] at hc1
              rcases hc1 with h1 | h1
              · omega
              · exact h1 h.2
            clear hc1
            have htry := fun q => try_iff (d := q) (days := days) hR hl hr hlast
            have hsp := okSpan_iff.1 (fitD_iff.1 hfd).1
            have hm : a < d → 0 ≤ max x (IntKind.i64.wrap (0 - IntKind.i64.wrap (x + 1))) % (d - a) ∧ max x (IntKind.i64.wrap (0 - IntKind.i64.wrap (x + 1))) % (d - a) < d - a := fun h => ⟨Int.emod_nonneg _ (by omega), Int.emod_lt_of_pos _ (by omega)⟩
            refine good_run 20 (obs := []) (by kernel_rfl) trivial ?_
            refine good_cond false (by kernel_rfl) (fun h => nomatch h) (fun _ => ?_)
            refine good_run 9 (obs := []) (by kernel_rfl) trivial ?_
            refine good_call (c := decide (d < a) = false ∧ True) (by kernel_rfl) (fun _ => SVles.refl _) (fun _ => s26 (d) (s) (r) (days) (l) (by (first | omega | assumption | exact ⟨rfl, trivial⟩ | simp only [AllP, inK_iff, roomOK_iff, decide_eq_true_eq, Bool.and_eq_true, Bool.or_eq_true, Bool.not_eq_true', decide_eq_false_iff_not, and_true, true_and]; (first | omega | (and_intros <;> intros <;> (try and_intros) <;> first | omega | assumption | exact trivial)))) (by (first | omega | assumption | exact ⟨rfl, trivial⟩ | simp only [AllP, inK_iff, roomOK_iff, decide_eq_true_eq, Bool.and_eq_true, Bool.or_eq_true, Bool.not_eq_true', decide_eq_false_iff_not, and_true, true_and]; (first | omega | (and_intros <;> intros <;> (try and_intros) <;> first | omega | assumption | exact trivial)))) (by (first | omega | assumption | exact ⟨rfl, trivial⟩ | simp only [AllP, inK_iff, roomOK_iff, decide_eq_true_eq, Bool.and_eq_true, Bool.or_eq_true, Bool.not_eq_true', decide_eq_false_iff_not, and_true, true_and]; (first | omega | (and_intros <;> intros <;> (try and_intros) <;> first | omega | assumption | exact trivial))))) (by kernel_rfl) ?_
            refine good_run 5 (obs := []) (by kernel_rfl) trivial ?_
            refine good_cond (decide (d < a) || !decide ((admitL s l { ID := (1073741824 : Int), Rd := r, F := d, U := d + days }).snd = (0 : Int))) (by kernel_rfl) (fun hc1 => ?_) (fun hc1 => ?_)
            · exfalso
              rw [(htry d).2 hfd] at hc1
              simp only [Bool.or_eq_true, decide_eq_true_eq, Bool.not_eq_true', decide_eq_false_iff_not] at hc1
              rcases hc1 with h | h
              · omega
              · exact h trivial
            · clear hc1
              refine good_run 22 (obs := [decide (d ≤ a) = false ∧ True → (0 : Int) ≤ (3 : Int) ∧ (3 : Int) < (4 : Int), decide (d ≤ a) = false ∧ True → (0 : Int) ≤ (3 : Int) ∧ (3 : Int) < (4 : Int), decide (d ≤ a) = false ∧ True → True, decide (d ≤ a) = false ∧ True → True, decide (d ≤ a) = false ∧ True → InK IntKind.i64 (d - a), decide (d ≤ a) = false ∧ True → (0 : Int) ≤ max x (IntKind.wrap IntKind.i64 ((0 : Int) - IntKind.wrap IntKind.i64 (x + (1 : Int)))) ∧ (0 : Int) < d - a, decide (d ≤ a) = false ∧ True → InK IntKind.i64 (a + max x (IntKind.wrap IntKind.i64 ((0 : Int) - IntKind.wrap IntKind.i64 (x + (1 : Int)))) % (d - a))]) (by kernel_rfl) (by (first | omega | assumption | exact ⟨rfl, trivial⟩ | simp only [AllP, inK_iff, roomOK_iff, decide_eq_true_eq, Bool.and_eq_true, Bool.or_eq_true, Bool.not_eq_true', decide_eq_false_iff_not, and_true, true_and]; (first | omega | (and_intros <;> intros <;> (try and_intros) <;> first | omega | assumption | exact trivial)))) ?_
              refine good_call (c := decide (d ≤ a) = false ∧ True) (by kernel_rfl) (fun _ => SVles.refl _) (fun _ => s26 (a + max x (IntKind.wrap IntKind.i64 ((0 : Int) - IntKind.wrap IntKind.i64 (x + (1 : Int)))) % (d - a)) (s) (r) (days) (l) ?_ ?_ ?_) (by kernel_rfl) ?_
              · exact hl
              · rename_i g
                have h3 := hm (by have := of_decide_eq_false g.1; omega)
                omega
              · rename_i g
                have h3 := hm (by have := of_decide_eq_false g.1; omega)
                omega
              refine good_run 7 (obs := []) (by kernel_rfl) trivial ?_
              refine good_fin [(decide (d ≤ a) || !decide ((admitL s l { ID := (1073741824 : Int), Rd := r, F := a + max x (IntKind.wrap IntKind.i64 ((0 : Int) - IntKind.wrap IntKind.i64 (x + (1 : Int)))) % (d - a), U := a + max x (IntKind.wrap IntKind.i64 ((0 : Int) - IntKind.wrap IntKind.i64 (x + (1 : Int)))) % (d - a) + days }).snd = (0 : Int))) = true] (by kernel_rfl) ⟨?_, trivial⟩
              rw [Bool.or_eq_true]
              by_cases hda : d ≤ a
              · exact .inl (decide_eq_true hda)
              · refine .inr ?_
                obtain ⟨h1, h2⟩ := hm (by omega)
                rw [Bool.not_eq_true', decide_eq_false_iff_not, htry, hno _ (by omega) (by omega)]
                decide
        · have s25c := s25 s l r a days
          rw [e] at s25c
          refine good_run 5 (obs := []) (by kernel_rfl) trivial ?_
          refine good_call (c := True) (by kernel_rfl) (fun _ => SVles.refl _) (fun _ => SpecOwn.spec (s12 (List.length l) (fun i => Bk.cells (List.getD l i default)) (by (first | omega | assumption | exact ⟨rfl, trivial⟩ | simp only [AllP, inK_iff, roomOK_iff, decide_eq_true_eq, Bool.and_eq_true, Bool.or_eq_true, Bool.not_eq_true', decide_eq_false_iff_not, and_true, true_and]; (first | omega | (and_intros <;> intros <;> (try and_intros) <;> first | omega | assumption | exact trivial)))))) (by kernel_rfl) ?_
          refine good_run 4 (obs := []) (by kernel_rfl) trivial ?_
          refine good_call (c := True) (by kernel_rfl) (fun _ => SVles.refl _) (fun _ => s25c) (by kernel_rfl) ?_
          refine good_run 18 (obs := []) (by kernel_rfl) trivial ?_
          refine good_cond false (by kernel_rfl) (fun h => nomatch h) (fun _ => ?_)
          refine good_run 19 (obs := [decide ((0 : Int) < (↑(List.length l) : Int)) = true ∧ True → InK IntKind.i64 ((↑(List.length l) : Int) - (1 : Int)), decide ((0 : Int) < (↑(List.length l) : Int)) = true ∧ True → (4 : Nat) = (4 : Nat) ∧ (0 : Int) ≤ (↑(List.length l) : Int) - (1 : Int) ∧ (↑(List.length l) : Int) - (1 : Int) < (↑(List.length l) : Int)]) (by kernel_rfl) (by (first | omega | assumption | exact ⟨rfl, trivial⟩ | simp only [AllP, inK_iff, roomOK_iff, decide_eq_true_eq, Bool.and_eq_true, Bool.or_eq_true, Bool.not_eq_true', decide_eq_false_iff_not, and_true, true_and]; (first | omega | (and_intros <;> intros <;> (try and_intros) <;> first | omega | assumption | exact trivial)))) ?_
          refine good_cond (decide ((0 : Int) < (↑(List.length l) : Int)) && decide ((1073741824 : Int) ≤ (List.getD l (Int.toNat ((↑(List.length l) : Int) - (1 : Int))) default).ID)) (by kernel_rfl) (fun hc1 => ?_) (fun hc1 => ?_)
          · refine good_run 7 (obs := []) (by kernel_rfl) trivial ?_
            refine good_fin [true = true] (by kernel_rfl) ⟨rfl, trivial⟩
          · have hlast : ¬ (0 < l.length ∧ 1073741824 ≤ (lastB l).ID) := by
              rw [hla] at hc1
              intro h
              rw [Bool.and_eq_false_iff, decide_eq_false_iff_not, decide_eq_false_iff_not] at hc1
              rcases hc1 with h1 | h1
              · omega
              · exact h1 h.2
            clear hc1
            have htry := fun q => try_iff (d := q) (days := days) hR hl hr hlast
            have h1 : 0 ≤ max x (IntKind.i64.wrap (0 - IntKind.i64.wrap (x + 1))) % (1048576 - a) := Int.emod_nonneg _ (by omega)
            have h2 : max x (IntKind.i64.wrap (0 - IntKind.i64.wrap (x + 1))) % (1048576 - a) < 1048576 - a := Int.emod_lt_of_pos _ (by omega)
            refine good_run 20 (obs := []) (by kernel_rfl) trivial ?_
            refine good_cond true (by kernel_rfl) (fun _ => ?_) (fun h => nomatch h)
            refine good_run 25 (obs := [decide ((1048576 : Int) ≤ a) = false ∧ True → (0 : Int) ≤ (3 : Int) ∧ (3 : Int) < (4 : Int), decide ((1048576 : Int) ≤ a) = false ∧ True → (0 : Int) ≤ (3 : Int) ∧ (3 : Int) < (4 : Int), decide ((1048576 : Int) ≤ a) = false ∧ True → True, decide ((1048576 : Int) ≤ a) = false ∧ True → True, decide ((1048576 : Int) ≤ a) = false ∧ True → InK IntKind.i64 ((1048576 : Int) - a), decide ((1048576 : Int) ≤ a) = false ∧ True → (0 : Int) ≤ max x (IntKind.wrap IntKind.i64 ((0 : Int) - IntKind.wrap IntKind.i64 (x + (1 : Int)))) ∧ (0 : Int) < (1048576 : Int) - a, decide ((1048576 : Int) ≤ a) = false ∧ True → InK IntKind.i64 (a + max x (IntKind.wrap IntKind.i64 ((0 : Int) - IntKind.wrap IntKind.i64 (x + (1 : Int)))) % ((1048576 : Int) - a))]) (by kernel_rfl) (by (first | omega | assumption | exact ⟨rfl, trivial⟩ | simp only [AllP, inK_iff, roomOK_iff, decide_eq_true_eq, Bool.and_eq_true, Bool.or_eq_true, Bool.not_eq_true', decide_eq_false_iff_not, and_true, true_and]; (first | omega | (and_intros <;> intros <;> (try and_intros) <;> first | omega | assumption | exact trivial)))) ?_
            refine good_call (c := decide ((1048576 : Int) ≤ a) = false ∧ True) (by kernel_rfl) (fun _ => SVles.refl _) (fun _ => s26 (a + max x (IntKind.wrap IntKind.i64 ((0 : Int) - IntKind.wrap IntKind.i64 (x + (1 : Int)))) % ((1048576 : Int) - a)) (s) (r) (days) (l) (by (first | omega | assumption | exact ⟨rfl, trivial⟩ | simp only [AllP, inK_iff, roomOK_iff, decide_eq_true_eq, Bool.and_eq_true, Bool.or_eq_true, Bool.not_eq_true', decide_eq_false_iff_not, and_true, true_and]; (first | omega | (and_intros <;> intros <;> (try and_intros) <;> first | omega | assumption | exact trivial)))) (by (first | omega | assumption | exact ⟨rfl, trivial⟩ | simp only [AllP, inK_iff, roomOK_iff, decide_eq_true_eq, Bool.and_eq_true, Bool.or_eq_true, Bool.not_eq_true', decide_eq_false_iff_not, and_true, true_and]; (first | omega | (and_intros <;> intros <;> (try and_intros) <;> first | omega | assumption | exact trivial)))) (by (first | omega | assumption | exact ⟨rfl, trivial⟩ | simp only [AllP, inK_iff, roomOK_iff, decide_eq_true_eq, Bool.and_eq_true, Bool.or_eq_true, Bool.not_eq_true', decide_eq_false_iff_not, and_true, true_and]; (first | omega | (and_intros <;> intros <;> (try and_intros) <;> first | omega | assumption | exact trivial))))) (by kernel_rfl) ?_
            refine good_run 7 (obs := []) (by kernel_rfl) trivial ?_
            refine good_fin [(decide ((1048576 : Int) ≤ a) || !decide ((admitL s l { ID := (1073741824 : Int), Rd := r, F := a + max x (IntKind.wrap IntKind.i64 ((0 : Int) - IntKind.wrap IntKind.i64 (x + (1 : Int)))) % ((1048576 : Int) - a), U := a + max x (IntKind.wrap IntKind.i64 ((0 : Int) - IntKind.wrap IntKind.i64 (x + (1 : Int)))) % ((1048576 : Int) - a) + days }).snd = (0 : Int))) = true] (by kernel_rfl) ⟨?_, trivial⟩
            rw [Bool.or_eq_true]
            refine .inr ?_
            rw [Bool.not_eq_true', decide_eq_false_iff_not, htry, hno _ (by omega)]
            decide
theorem s7i (s : Int) (l : List Bk) (r a days x : Int) (hx : InK .i64 x) : Spec Try.prog 7 [.int .i64 s, bks l, .agg [.int .i64 r, .int .i64 a, .int .i64 days, .int .i64 x]] (.bool true) :=
  (s7 s l r a days x hx).of_args ⟨SVle.refl _, SVle.refl _, svle_agg ⟨SVle.refl _, SVle.refl _, SVle.refl _, svle_int_val _ _, trivial⟩, trivial⟩
end Go.Sx.T
