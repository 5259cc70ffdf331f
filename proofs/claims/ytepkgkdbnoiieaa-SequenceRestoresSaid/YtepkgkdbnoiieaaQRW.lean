/- Contracts of functions of the program, each proved by running its code symbolically (QRW). -/
import Derived.Test.YtepkgkdbnoiieaaQRP
import Derived.Test.YtepkgkdbnoiieaaQZ
namespace Go.Sx.T
open Go Go.Proofs Go.Sx
set_option maxRecDepth 100000
set_option maxHeartbeats 8000000
set_option linter.unusedVariables false
set_option linter.unusedSimpArgs false
def unL (l : List Int) : List Int := unset (lis 0 l) (isort l)
def setJ (l : List Int) (j : Nat) : List Int := lis 0 l ++ (unL l).take j
def outJ (l : List Int) (j : Nat) : List Shift := outG (lis 0 l) [] ((unL l).take j)
theorem setJ_len (l : List Int) (j : Nat) (h : j ≤ (unL l).length) : (setJ l j).length = (lis 0 l).length + j := by
  unfold setJ; rw [List.length_append, List.length_take]; omega
theorem setJ_succ (l : List Int) (j : Nat) (h : j < (unL l).length) : setJ l (j + 1) = setJ l j ++ [(unL l).getD j 0] := by
  unfold setJ; rw [take_snoc _ _ h, List.append_assoc]
theorem outJ_succ (l : List Int) (j : Nat) (h : j < (unL l).length) : outJ l (j + 1) = outJ l j ++ [⟨(unL l).getD j 0, befR (setJ l j) ((unL l).getD j 0)⟩] := by
  unfold outJ; rw [take_snoc _ _ h, outG_snoc]; rfl
theorem outJ_len (l : List Int) (j : Nat) (h : j ≤ (unL l).length) : (outJ l j).length = j := by
  unfold outJ; rw [outG_len, List.length_take]; omega
theorem least_at {l : List Int} (hc : chkL l = 0) (j : Nat) (h : j < (unL l).length) : minF (fun x => !decide (x ∈ setJ l j)) l = (unL l).getD j 0 := by
  obtain ⟨h1, h2, h3, h4⟩ := chk_pos hc
  have hrise : (unL l).Pairwise (· < ·) := (isort_lt h2).sublist List.filter_sublist
  have hmem := List.mem_filter.1 (getD_mem (unL l) 0 j h)
  have hP : (unL l).getD j 0 ∉ lis 0 l := by simpa using hmem.2
  refine minF_is (fun x hx => by have := h4 x hx; omega) ((isort_perm l).mem_iff.1 hmem.1) ?_ fun y hy hp => ?_
  · simp only [Bool.not_eq_true', decide_eq_false_iff_not]
    intro hs
    rcases List.mem_append.1 hs with hs | hs
    · exact hP hs
    · obtain ⟨i, hi, e⟩ := mem_getD hs
      rw [List.length_take] at hi
      rw [getD_take _ _ _ (by omega)] at e
      have := rise_at hrise (show i < j by omega) h
      omega
  · simp only [Bool.not_eq_true', decide_eq_false_iff_not] at hp
    have hyU : y ∈ unL l := List.mem_filter.2 ⟨(isort_perm l).mem_iff.2 hy, by
      simp only [Bool.not_eq_true', decide_eq_false_iff_not]
      exact fun h' => hp (List.mem_append_left _ h')⟩
    obtain ⟨i, hi, e⟩ := mem_getD hyU
    by_cases hij : i < j
    · exfalso
      refine hp (List.mem_append_right _ ?_)
      rw [← e, ← getD_take (unL l) j i hij]
      exact getD_mem _ _ _ (by rw [List.length_take]; omega)
    · by_cases e2 : i = j
      · rw [← e, e2]; exact Int.le_refl _
      · have := rise_at hrise (show j < i by omega) hi
        omega
theorem s24 (l : List Int) (hl : l.length ≤ 100000) : Spec Try.prog 24 [ints l] (.tup [shifts (restL l).1, .int .i64 (restL l).2]) := by
  refine spec_of_good mixed Try.func24 F24_ok (by kernel_rfl) ?_
  have h21 := s21 l hl
  refine good_run 10 (obs := []) (by kernel_rfl) trivial ?_
  refine good_call (c := True) (by kernel_rfl) (fun _ => SVles.refl _) (fun _ => s21 (l) (by (first | omega | assumption | exact ⟨rfl, trivial⟩ | simp only [AllP, inK_iff, roomOK_iff, decide_eq_true_eq, Bool.and_eq_true, Bool.or_eq_true, Bool.not_eq_true', decide_eq_false_iff_not, and_true, true_and]; (first | omega | (and_intros <;> intros <;> (try and_intros) <;> first | omega | assumption | exact trivial))))) (by kernel_rfl) ?_
  refine good_run 9 (obs := []) (by kernel_rfl) trivial ?_
  refine good_cond (!decide (chkL l = (0 : Int))) (by kernel_rfl) (fun hc1 => ?_) (fun hc1 => ?_)
  · have e : restL l = ([], chkL l) := if_neg (by simpa using hc1)
    rw [e]
    refine good_run 9 (obs := []) (by kernel_rfl) trivial ?_
    refine good_fin [(0 : Nat) = (0 : Nat), chkL l = chkL l] (by kernel_rfl) ⟨rfl, rfl, trivial⟩
  · have hc : chkL l = 0 := by simpa using hc1
    obtain ⟨h1, h2, h3, h4⟩ := chk_pos hc
    have hUP := (unset_perm h2).length_eq
    rw [List.length_append] at hUP
    have hUl : (unset (lis 0 l) (isort l)).length = (unL l).length := rfl
    have e : restL l = (outJ l (unL l).length, 0) := by
      unfold restL
      rw [if_pos hc, rest_all hc]
      unfold outJ
      rw [List.take_length]; rfl
    have s41 := s41 l h1 (fun x hx => by have := h4 x hx; omega)
    rw [e]
    refine good_run 4 (obs := []) (by kernel_rfl) trivial ?_
    refine good_call (c := True) (by kernel_rfl) (fun _ => SVles.refl _) (fun _ => s41) (by kernel_rfl) ?_
    refine good_run 10 (obs := []) (by kernel_rfl) trivial ?_
    refine good_loopJ (fun j : Nat => ⟨[(5, .sv (ints (setJ l j))), (6, .own 0), (0, LV.sv (SV.lst (1 : Nat) (List.length l) fun i => [SV.int IntKind.i64 (List.getD l i (0 : Int))]))], [.row 40 2 (outJ l j).length true fun i => ((outJ l j).getD i default).cells]⟩) (fun j => j ≤ (unL l).length) (fun j => (unL l).length - j) (0) [(0 : Nat) = (0 : Nat), List.length (lis (0 : Int) l) = List.length (setJ l (0 : Nat)) ∧ ∀ (i : Nat), i < List.length (lis (0 : Int) l) → (fun i => [SV.int IntKind.i64 (List.getD (lis (0 : Int) l) i (0 : Int))]) i = (fun i => [SV.int IntKind.i64 (List.getD (setJ l (0 : Nat)) i (0 : Int))]) i, List.length l = List.length l ∧ ∀ (i : Nat), i < List.length l → (fun i => [SV.int IntKind.i64 (List.getD l i (0 : Int))]) i = (fun i => [SV.int IntKind.i64 (List.getD l i (0 : Int))]) i] (by kernel_rfl) (by kernel_rfl) ⟨rfl, ?_, ⟨rfl, fun _ _ => rfl⟩, trivial⟩ (by omega) ?_
    · have e0 : setJ l 0 = lis 0 l := by unfold setJ; rw [List.take_zero, List.append_nil]
      rw [e0]; exact ⟨rfl, fun _ _ => rfl⟩
    intro j hj
    have hsl := setJ_len l j hj
    have hol := outJ_len l j hj
    refine good_run 10 (obs := []) (by kernel_rfl) trivial ?_
    refine good_cond (decide ((↑(List.length (setJ l j)) : Int) < (↑(List.length l) : Int))) (by kernel_rfl) (fun hc2 => ?_) (fun hc2 => ?_)
    · have hlt : j < (unL l).length := by simp only [decide_eq_true_eq] at hc2; omega
      have hu := least_at hc j hlt
      refine good_run 14 (obs := []) (by kernel_rfl) trivial ?_
      refine good_loopJ (fun i : Nat => ⟨[(8, .sv (.int .i64 (i))), (7, .sv (.int .i64 ((minF (fun x => !decide (x ∈ setJ l j)) (l.take i))))), (5, LV.sv (SV.lst (1 : Nat) (List.length (setJ l j)) fun i => [SV.int IntKind.i64 (List.getD (setJ l j) i (0 : Int))])), (6, LV.own (0 : Nat)), (0, LV.sv (SV.lst (1 : Nat) (List.length l) fun i => [SV.int IntKind.i64 (List.getD l i (0 : Int))]))], [Blk.row (40 : Nat) (2 : Nat) (List.length (outJ l j)) true fun i => Shift.cells (List.getD (outJ l j) i default)]⟩) (fun i => i ≤ l.length) (fun i => l.length - i) (0) [List.length (outJ l j) = List.length (outJ l j) ∧ ∀ (i : Nat), i < List.length (outJ l j) → (fun i => Shift.cells (List.getD (outJ l j) i default)) i = (fun i => Shift.cells (List.getD (outJ l j) i default)) i, (0 : Int) = (0 : Int), (0 : Int) = minF (fun x => !decide (x ∈ setJ l j)) [], List.length (setJ l j) = List.length (setJ l j) ∧ ∀ (i : Nat), i < List.length (setJ l j) → (fun i => [SV.int IntKind.i64 (List.getD (setJ l j) i (0 : Int))]) i = (fun i => [SV.int IntKind.i64 (List.getD (setJ l j) i (0 : Int))]) i, List.length l = List.length l ∧ ∀ (i : Nat), i < List.length l → (fun i => [SV.int IntKind.i64 (List.getD l i (0 : Int))]) i = (fun i => [SV.int IntKind.i64 (List.getD l i (0 : Int))]) i] (by kernel_rfl) (by kernel_rfl) ⟨⟨rfl, fun _ _ => rfl⟩, rfl, (by rfl), ⟨rfl, fun _ _ => rfl⟩, ⟨rfl, fun _ _ => rfl⟩, trivial⟩ (by omega) ?_
      intro i hi
      refine good_run 9 (obs := []) (by kernel_rfl) trivial ?_
      refine good_cond (decide ((↑i : Int) < (↑(List.length l) : Int))) (by kernel_rfl) (fun hc3 => ?_) (fun hc3 => ?_)
      · have hil : i < l.length := by simp only [decide_eq_true_eq] at hc3; omega
        have hs : minF (fun x => !decide (x ∈ setJ l j)) (l.take (i + 1)) = minS (fun x => !decide (x ∈ setJ l j)) (minF (fun x => !decide (x ∈ setJ l j)) (l.take i)) (l.getD i 0) := by
          rw [take_snoc l i hil, minF_snoc]
        unfold minS at hs
        refine good_run 10 (obs := [(1 : Nat) = (1 : Nat) ∧ (0 : Int) ≤ (↑i : Int) ∧ (↑i : Int) < (↑(List.length l) : Int)]) (by kernel_rfl) (by (first | omega | assumption | exact ⟨rfl, trivial⟩ | simp only [AllP, inK_iff, roomOK_iff, decide_eq_true_eq, Bool.and_eq_true, Bool.or_eq_true, Bool.not_eq_true', decide_eq_false_iff_not, and_true, true_and]; (first | omega | (and_intros <;> intros <;> (try and_intros) <;> first | omega | assumption | exact trivial)))) ?_
        refine good_call (c := True) (by kernel_rfl) (fun _ => SVles.refl _) (fun _ => s48 (setJ l j) (List.getD l i (0 : Int))) (by kernel_rfl) ?_
        refine good_run 15 (obs := [decide (minF (fun x => !decide (x ∈ setJ l j)) (List.take i l) = (0 : Int)) = false ∧ (!decide (List.getD l i (0 : Int) ∈ setJ l j)) = true ∧ True → (1 : Nat) = (1 : Nat) ∧ (0 : Int) ≤ (↑i : Int) ∧ (↑i : Int) < (↑(List.length l) : Int)]) (by kernel_rfl) (by (first | omega | assumption | exact ⟨rfl, trivial⟩ | simp only [AllP, inK_iff, roomOK_iff, decide_eq_true_eq, Bool.and_eq_true, Bool.or_eq_true, Bool.not_eq_true', decide_eq_false_iff_not, and_true, true_and]; (first | omega | (and_intros <;> intros <;> (try and_intros) <;> first | omega | assumption | exact trivial)))) ?_
        refine good_cond (!decide (List.getD l i (0 : Int) ∈ setJ l j) && (decide (minF (fun x => !decide (x ∈ setJ l j)) (List.take i l) = (0 : Int)) || decide (List.getD l i (0 : Int) < minF (fun x => !decide (x ∈ setJ l j)) (List.take i l)))) (by kernel_rfl) (fun hc4 => ?_) (fun hc4 => ?_)
        · rw [if_pos (by simpa using hc4)] at hs
          refine good_run 15 (obs := [(1 : Nat) = (1 : Nat) ∧ (0 : Int) ≤ (↑i : Int) ∧ (↑i : Int) < (↑(List.length l) : Int), InK IntKind.i64 ((↑i : Int) + (1 : Int))]) (by kernel_rfl) (by (first | omega | assumption | exact ⟨rfl, trivial⟩ | simp only [AllP, inK_iff, roomOK_iff, decide_eq_true_eq, Bool.and_eq_true, Bool.or_eq_true, Bool.not_eq_true', decide_eq_false_iff_not, and_true, true_and]; (first | omega | (and_intros <;> intros <;> (try and_intros) <;> first | omega | assumption | exact trivial)))) ?_
          refine good_backJ (i + 1) [List.length (outJ l j) = List.length (outJ l j) ∧ ∀ (i : Nat), i < List.length (outJ l j) → (fun i => Shift.cells (List.getD (outJ l j) i default)) i = (fun i => Shift.cells (List.getD (outJ l j) i default)) i, (↑i : Int) + (1 : Int) = (↑(i + (1 : Nat)) : Int), List.getD l i (0 : Int) = minF (fun x => !decide (x ∈ setJ l j)) (List.take (i + (1 : Nat)) l), List.length (setJ l j) = List.length (setJ l j) ∧ ∀ (i : Nat), i < List.length (setJ l j) → (fun i => [SV.int IntKind.i64 (List.getD (setJ l j) i (0 : Int))]) i = (fun i => [SV.int IntKind.i64 (List.getD (setJ l j) i (0 : Int))]) i, List.length l = List.length l ∧ ∀ (i : Nat), i < List.length l → (fun i => [SV.int IntKind.i64 (List.getD l i (0 : Int))]) i = (fun i => [SV.int IntKind.i64 (List.getD l i (0 : Int))]) i] (by kernel_rfl) (by kernel_rfl) ⟨⟨rfl, fun _ _ => rfl⟩, (by omega), (by omega), ⟨rfl, fun _ _ => rfl⟩, ⟨rfl, fun _ _ => rfl⟩, trivial⟩ (by omega) (by show _ < _; omega)
        · rw [if_neg (by simpa using hc4)] at hs
          refine good_run 8 (obs := [InK IntKind.i64 ((↑i : Int) + (1 : Int))]) (by kernel_rfl) (by (first | omega | assumption | exact ⟨rfl, trivial⟩ | simp only [AllP, inK_iff, roomOK_iff, decide_eq_true_eq, Bool.and_eq_true, Bool.or_eq_true, Bool.not_eq_true', decide_eq_false_iff_not, and_true, true_and]; (first | omega | (and_intros <;> intros <;> (try and_intros) <;> first | omega | assumption | exact trivial)))) ?_
          refine good_backJ (i + 1) [List.length (outJ l j) = List.length (outJ l j) ∧ ∀ (i : Nat), i < List.length (outJ l j) → (fun i => Shift.cells (List.getD (outJ l j) i default)) i = (fun i => Shift.cells (List.getD (outJ l j) i default)) i, (↑i : Int) + (1 : Int) = (↑(i + (1 : Nat)) : Int), minF (fun x => !decide (x ∈ setJ l j)) (List.take i l) = minF (fun x => !decide (x ∈ setJ l j)) (List.take (i + (1 : Nat)) l), List.length (setJ l j) = List.length (setJ l j) ∧ ∀ (i : Nat), i < List.length (setJ l j) → (fun i => [SV.int IntKind.i64 (List.getD (setJ l j) i (0 : Int))]) i = (fun i => [SV.int IntKind.i64 (List.getD (setJ l j) i (0 : Int))]) i, List.length l = List.length l ∧ ∀ (i : Nat), i < List.length l → (fun i => [SV.int IntKind.i64 (List.getD l i (0 : Int))]) i = (fun i => [SV.int IntKind.i64 (List.getD l i (0 : Int))]) i] (by kernel_rfl) (by kernel_rfl) ⟨⟨rfl, fun _ _ => rfl⟩, (by omega), (by omega), ⟨rfl, fun _ _ => rfl⟩, ⟨rfl, fun _ _ => rfl⟩, trivial⟩ (by omega) (by show _ < _; omega)
      · have : i = l.length := by simp only [decide_eq_false_iff_not] at hc3; omega
        subst this
        rw [List.take_length, hu]
        refine good_run 2 (obs := []) (by kernel_rfl) trivial ?_
        refine good_leaveJ (by kernel_rfl) ?_
        refine good_run 13 (obs := []) (by kernel_rfl) trivial ?_
        refine good_loopJ (fun i : Nat => ⟨[(10, .sv (.int .i64 (i))), (9, .sv (.int .i64 ((minF (fun x => decide ((unL l).getD j 0 < x)) ((setJ l j).take i))))), (7, LV.sv (SV.int IntKind.i64 (List.getD (unL l) j (0 : Int)))), (5, LV.sv (SV.lst (1 : Nat) (List.length (setJ l j)) fun i => [SV.int IntKind.i64 (List.getD (setJ l j) i (0 : Int))])), (6, LV.own (0 : Nat)), (0, LV.sv (SV.lst (1 : Nat) (List.length l) fun i => [SV.int IntKind.i64 (List.getD l i (0 : Int))]))], [Blk.row (40 : Nat) (2 : Nat) (List.length (outJ l j)) true fun i => Shift.cells (List.getD (outJ l j) i default)]⟩) (fun i => i ≤ (setJ l j).length) (fun i => (setJ l j).length - i) (0) [List.length (outJ l j) = List.length (outJ l j) ∧ ∀ (i : Nat), i < List.length (outJ l j) → (fun i => Shift.cells (List.getD (outJ l j) i default)) i = (fun i => Shift.cells (List.getD (outJ l j) i default)) i, (0 : Int) = (0 : Int), (0 : Int) = minF (fun x => decide (List.getD (unL l) j (0 : Int) < x)) [], List.getD (unL l) j (0 : Int) = List.getD (unL l) j (0 : Int), List.length (setJ l j) = List.length (setJ l j) ∧ ∀ (i : Nat), i < List.length (setJ l j) → (fun i => [SV.int IntKind.i64 (List.getD (setJ l j) i (0 : Int))]) i = (fun i => [SV.int IntKind.i64 (List.getD (setJ l j) i (0 : Int))]) i, List.length l = List.length l ∧ ∀ (i : Nat), i < List.length l → (fun i => [SV.int IntKind.i64 (List.getD l i (0 : Int))]) i = (fun i => [SV.int IntKind.i64 (List.getD l i (0 : Int))]) i] (by kernel_rfl) (by kernel_rfl) ⟨⟨rfl, fun _ _ => rfl⟩, rfl, (by rfl), rfl, ⟨rfl, fun _ _ => rfl⟩, ⟨rfl, fun _ _ => rfl⟩, trivial⟩ (by omega) ?_
        intro i hi
        refine good_run 9 (obs := []) (by kernel_rfl) trivial ?_
        refine good_cond (decide ((↑i : Int) < (↑(List.length (setJ l j)) : Int))) (by kernel_rfl) (fun hc4 => ?_) (fun hc4 => ?_)
        · have hil : i < (setJ l j).length := by simp only [decide_eq_true_eq] at hc4; omega
          have hs : minF (fun x => decide ((unL l).getD j 0 < x)) ((setJ l j).take (i + 1)) = minS (fun x => decide ((unL l).getD j 0 < x)) (minF (fun x => decide ((unL l).getD j 0 < x)) ((setJ l j).take i)) ((setJ l j).getD i 0) := by
            rw [take_snoc _ i hil, minF_snoc]
          unfold minS at hs
          refine good_run 25 (obs := [(1 : Nat) = (1 : Nat) ∧ (0 : Int) ≤ (↑i : Int) ∧ (↑i : Int) < (↑(List.length (setJ l j)) : Int), decide (minF (fun x => decide (List.getD (unL l) j (0 : Int) < x)) (List.take i (setJ l j)) = (0 : Int)) = false ∧ decide (List.getD (unL l) j (0 : Int) < List.getD (setJ l j) i (0 : Int)) = true ∧ True → (1 : Nat) = (1 : Nat) ∧ (0 : Int) ≤ (↑i : Int) ∧ (↑i : Int) < (↑(List.length (setJ l j)) : Int)]) (by kernel_rfl) (by (first | omega | assumption | exact ⟨rfl, trivial⟩ | simp only [AllP, inK_iff, roomOK_iff, decide_eq_true_eq, Bool.and_eq_true, Bool.or_eq_true, Bool.not_eq_true', decide_eq_false_iff_not, and_true, true_and]; (first | omega | (and_intros <;> intros <;> (try and_intros) <;> first | omega | assumption | exact trivial)))) ?_
          refine good_cond (decide (List.getD (unL l) j (0 : Int) < List.getD (setJ l j) i (0 : Int)) && (decide (minF (fun x => decide (List.getD (unL l) j (0 : Int) < x)) (List.take i (setJ l j)) = (0 : Int)) || decide (List.getD (setJ l j) i (0 : Int) < minF (fun x => decide (List.getD (unL l) j (0 : Int) < x)) (List.take i (setJ l j))))) (by kernel_rfl) (fun hc5 => ?_) (fun hc5 => ?_)
          · rw [if_pos (by simpa using hc5)] at hs
            refine good_run 15 (obs := [(1 : Nat) = (1 : Nat) ∧ (0 : Int) ≤ (↑i : Int) ∧ (↑i : Int) < (↑(List.length (setJ l j)) : Int), InK IntKind.i64 ((↑i : Int) + (1 : Int))]) (by kernel_rfl) (by (first | omega | assumption | exact ⟨rfl, trivial⟩ | simp only [AllP, inK_iff, roomOK_iff, decide_eq_true_eq, Bool.and_eq_true, Bool.or_eq_true, Bool.not_eq_true', decide_eq_false_iff_not, and_true, true_and]; (first | omega | (and_intros <;> intros <;> (try and_intros) <;> first | omega | assumption | exact trivial)))) ?_
            refine good_backJ (i + 1) [List.length (outJ l j) = List.length (outJ l j) ∧ ∀ (i : Nat), i < List.length (outJ l j) → (fun i => Shift.cells (List.getD (outJ l j) i default)) i = (fun i => Shift.cells (List.getD (outJ l j) i default)) i, (↑i : Int) + (1 : Int) = (↑(i + (1 : Nat)) : Int), List.getD (setJ l j) i (0 : Int) = minF (fun x => decide (List.getD (unL l) j (0 : Int) < x)) (List.take (i + (1 : Nat)) (setJ l j)), List.getD (unL l) j (0 : Int) = List.getD (unL l) j (0 : Int), List.length (setJ l j) = List.length (setJ l j) ∧ ∀ (i : Nat), i < List.length (setJ l j) → (fun i => [SV.int IntKind.i64 (List.getD (setJ l j) i (0 : Int))]) i = (fun i => [SV.int IntKind.i64 (List.getD (setJ l j) i (0 : Int))]) i, List.length l = List.length l ∧ ∀ (i : Nat), i < List.length l → (fun i => [SV.int IntKind.i64 (List.getD l i (0 : Int))]) i = (fun i => [SV.int IntKind.i64 (List.getD l i (0 : Int))]) i] (by kernel_rfl) (by kernel_rfl) ⟨⟨rfl, fun _ _ => rfl⟩, (by omega), (by omega), rfl, ⟨rfl, fun _ _ => rfl⟩, ⟨rfl, fun _ _ => rfl⟩, trivial⟩ (by omega) (by show _ < _; omega)
          · rw [if_neg (by simpa using hc5)] at hs
            refine good_run 8 (obs := [InK IntKind.i64 ((↑i : Int) + (1 : Int))]) (by kernel_rfl) (by (first | omega | assumption | exact ⟨rfl, trivial⟩ | simp only [AllP, inK_iff, roomOK_iff, decide_eq_true_eq, Bool.and_eq_true, Bool.or_eq_true, Bool.not_eq_true', decide_eq_false_iff_not, and_true, true_and]; (first | omega | (and_intros <;> intros <;> (try and_intros) <;> first | omega | assumption | exact trivial)))) ?_
            refine good_backJ (i + 1) [List.length (outJ l j) = List.length (outJ l j) ∧ ∀ (i : Nat), i < List.length (outJ l j) → (fun i => Shift.cells (List.getD (outJ l j) i default)) i = (fun i => Shift.cells (List.getD (outJ l j) i default)) i, (↑i : Int) + (1 : Int) = (↑(i + (1 : Nat)) : Int), minF (fun x => decide (List.getD (unL l) j (0 : Int) < x)) (List.take i (setJ l j)) = minF (fun x => decide (List.getD (unL l) j (0 : Int) < x)) (List.take (i + (1 : Nat)) (setJ l j)), List.getD (unL l) j (0 : Int) = List.getD (unL l) j (0 : Int), List.length (setJ l j) = List.length (setJ l j) ∧ ∀ (i : Nat), i < List.length (setJ l j) → (fun i => [SV.int IntKind.i64 (List.getD (setJ l j) i (0 : Int))]) i = (fun i => [SV.int IntKind.i64 (List.getD (setJ l j) i (0 : Int))]) i, List.length l = List.length l ∧ ∀ (i : Nat), i < List.length l → (fun i => [SV.int IntKind.i64 (List.getD l i (0 : Int))]) i = (fun i => [SV.int IntKind.i64 (List.getD l i (0 : Int))]) i] (by kernel_rfl) (by kernel_rfl) ⟨⟨rfl, fun _ _ => rfl⟩, (by omega), (by omega), rfl, ⟨rfl, fun _ _ => rfl⟩, ⟨rfl, fun _ _ => rfl⟩, trivial⟩ (by omega) (by show _ < _; omega)
        · have : i = (setJ l j).length := by simp only [decide_eq_false_iff_not] at hc4; omega
          subst this
          rw [List.take_length]
          have hos := outJ_succ l j hlt
          have hss := setJ_succ l j hlt
          unfold befR at hos
          refine good_run 2 (obs := []) (by kernel_rfl) trivial ?_
          refine good_leaveJ (by kernel_rfl) ?_
          refine good_run 8 (obs := []) (by kernel_rfl) trivial ?_
          refine good_run 1 (obs := [(40 : Nat) = (40 : Nat) ∧ (2 : Nat) = (2 : Nat) ∧ (2 : Nat) = (2 : Nat) ∧ roomOK (List.length (outJ l j) + (1 : Nat)) (16 : Nat)]) (by kernel_rfl) (by (first | omega | assumption | exact ⟨rfl, trivial⟩ | simp only [AllP, inK_iff, roomOK_iff, decide_eq_true_eq, Bool.and_eq_true, Bool.or_eq_true, Bool.not_eq_true', decide_eq_false_iff_not, and_true, true_and]; (first | omega | (and_intros <;> intros <;> (try and_intros) <;> first | omega | assumption | exact trivial)))) ?_
          refine good_run 6 (obs := []) (by kernel_rfl) trivial ?_
          refine good_run 1 (obs := [(3 : Nat) = (3 : Nat) ∧ (1 : Nat) = (1 : Nat) ∧ (1 : Nat) = (1 : Nat) ∧ roomOK ((0 : Nat) + List.length (setJ l j)) (8 : Nat)]) (by kernel_rfl) (by (first | omega | assumption | exact ⟨rfl, trivial⟩ | simp only [AllP, inK_iff, roomOK_iff, decide_eq_true_eq, Bool.and_eq_true, Bool.or_eq_true, Bool.not_eq_true', decide_eq_false_iff_not, and_true, true_and]; (first | omega | (and_intros <;> intros <;> (try and_intros) <;> first | omega | assumption | exact trivial)))) ?_
          refine good_run 2 (obs := []) (by kernel_rfl) trivial ?_
          refine good_run 1 (obs := [(3 : Nat) = (3 : Nat) ∧ (1 : Nat) = (1 : Nat) ∧ (1 : Nat) = (1 : Nat) ∧ roomOK ((0 : Nat) + List.length (setJ l j) + (1 : Nat)) (8 : Nat)]) (by kernel_rfl) (by (first | omega | assumption | exact ⟨rfl, trivial⟩ | simp only [AllP, inK_iff, roomOK_iff, decide_eq_true_eq, Bool.and_eq_true, Bool.or_eq_true, Bool.not_eq_true', decide_eq_false_iff_not, and_true, true_and]; (first | omega | (and_intros <;> intros <;> (try and_intros) <;> first | omega | assumption | exact trivial)))) ?_
          refine good_part 91 ((2 : Nat)) ((1 : Nat)) ((0 : Nat) + List.length (setJ l j) + (1 : Nat)) (joinGet ((0 : Nat) + List.length (setJ l j)) (joinGet (0 : Nat) (cutRows (1 : Nat) []) fun i => [SV.int IntKind.i64 (List.getD (setJ l j) i (0 : Int))]) (cutRows (1 : Nat) [SV.int IntKind.i64 (List.getD (unL l) j (0 : Int))])) (by kernel_rfl) ?_
          refine good_run 4 (obs := []) (by kernel_rfl) trivial ?_
          refine good_backJ (j + 1) [List.length (outJ l j) + (1 : Nat) = List.length (outJ l (j + (1 : Nat))) ∧ ∀ (i : Nat), i < List.length (outJ l j) + (1 : Nat) → joinGet (List.length (outJ l j)) (fun i => Shift.cells (List.getD (outJ l j) i default)) (cutRows (2 : Nat) [SV.int IntKind.i64 (List.getD (unL l) j (0 : Int)), SV.int IntKind.i64 (minF (fun x => decide (List.getD (unL l) j (0 : Int) < x)) (setJ l j))]) i = (fun i => Shift.cells (List.getD (outJ l (j + (1 : Nat))) i default)) i, (0 : Nat) + List.length (setJ l j) + (1 : Nat) = List.length (setJ l (j + (1 : Nat))) ∧ ∀ (i : Nat), i < (0 : Nat) + List.length (setJ l j) + (1 : Nat) → joinGet ((0 : Nat) + List.length (setJ l j)) (joinGet (0 : Nat) (cutRows (1 : Nat) []) fun i => [SV.int IntKind.i64 (List.getD (setJ l j) i (0 : Int))]) (cutRows (1 : Nat) [SV.int IntKind.i64 (List.getD (unL l) j (0 : Int))]) i = (fun i => [SV.int IntKind.i64 (List.getD (setJ l (j + (1 : Nat))) i (0 : Int))]) i, List.length l = List.length l ∧ ∀ (i : Nat), i < List.length l → (fun i => [SV.int IntKind.i64 (List.getD l i (0 : Int))]) i = (fun i => [SV.int IntKind.i64 (List.getD l i (0 : Int))]) i] (by kernel_rfl) (by kernel_rfl) ⟨?_, ?_, ⟨rfl, fun _ _ => rfl⟩, trivial⟩ (by omega) (by show _ < _; omega)
          · rw [hos]
            exact row_snoc' Shift.cells default (outJ l j) _ 2 rfl
          · rw [hss, Nat.zero_add, joinGet_zero]
            exact row_snoc' (fun x => [SV.int .i64 x]) 0 (setJ l j) _ 1 rfl
    · have : j = (unL l).length := by simp only [decide_eq_false_iff_not] at hc2; omega
      subst this
      refine good_run 2 (obs := []) (by kernel_rfl) trivial ?_
      refine good_leaveJ (by kernel_rfl) ?_
      refine good_run 9 (obs := []) (by kernel_rfl) trivial ?_
      refine good_fin [List.length (outJ l (List.length (unL l))) = List.length (outJ l (List.length (unL l)), (0 : Int)).fst ∧ ∀ (i : Nat), i < List.length (outJ l (List.length (unL l))) → (fun i => Shift.cells (List.getD (outJ l (List.length (unL l))) i default)) i = (fun i => Shift.cells (List.getD (outJ l (List.length (unL l)), (0 : Int)).fst i default)) i, (0 : Int) = (0 : Int)] (by kernel_rfl) ⟨⟨rfl, fun _ _ => rfl⟩, rfl, trivial⟩
theorem s4 (l : List Int) : Spec Try.prog 4 [ints l] (.bool true) := by
  refine spec_len 0 rfl (hasBody_of_slim Try.func4 F4_ok) fun hlen0 => ?_
  refine spec_of_good mixed Try.func4 F4_ok (by kernel_rfl) ?_
  refine good_run 8 (obs := []) (by kernel_rfl) trivial ?_
  refine good_call (c := True) (by kernel_rfl) (fun _ => SVles.refl _) (fun _ => s11) (by kernel_rfl) ?_
  refine good_run 4 (obs := []) (by kernel_rfl) trivial ?_
  refine good_call (c := (!true) = false ∧ True) (by kernel_rfl) (fun _ => SVles.refl _) (fun _ => s12 (l)) (by kernel_rfl) ?_
  refine good_run 5 (obs := []) (by kernel_rfl) trivial ?_
  refine good_cond (!true || !(decide (List.length l ≤ (40 : Nat)) || decide (List.length l = (257 : Nat)))) (by kernel_rfl) (fun hc1 => ?_) (fun hc1 => ?_)
  · refine good_run 2 (obs := []) (by kernel_rfl) trivial ?_
    refine good_call (c := True) (by kernel_rfl) (fun _ => SVles.refl _) (fun _ => s11) (by kernel_rfl) ?_
    refine good_run 5 (obs := []) (by kernel_rfl) trivial ?_
    refine good_fin [true = true] (by kernel_rfl) ⟨rfl, trivial⟩
  · simp only [Bool.or_eq_false_iff, Bool.not_eq_false', Bool.or_eq_true, decide_eq_true_eq, Bool.not_true, true_and] at hc1
    have hl : l.length ≤ 100000 := by omega
    refine good_run 4 (obs := []) (by kernel_rfl) trivial ?_
    refine good_own (c := True) (by kernel_rfl) (by kernel_rfl) (SVles.refl _) (s14 (List.length l) (fun i => [SV.int IntKind.i64 (List.getD l i (0 : Int))]) (by (first | omega | assumption | exact ⟨rfl, trivial⟩ | simp only [AllP, inK_iff, roomOK_iff, decide_eq_true_eq, Bool.and_eq_true, Bool.or_eq_true, Bool.not_eq_true', decide_eq_false_iff_not, and_true, true_and]; (first | omega | (and_intros <;> intros <;> (try and_intros) <;> first | omega | assumption | exact trivial))))) ?_
    refine good_call (c := True) (by kernel_rfl) (fun _ => SVles.refl _) (fun _ => s23 (l) (by (first | omega | assumption | exact ⟨rfl, trivial⟩ | simp only [AllP, inK_iff, roomOK_iff, decide_eq_true_eq, Bool.and_eq_true, Bool.or_eq_true, Bool.not_eq_true', decide_eq_false_iff_not, and_true, true_and]; (first | omega | (and_intros <;> intros <;> (try and_intros) <;> first | omega | assumption | exact trivial))))) (by kernel_rfl) ?_
    refine good_run 10 (obs := []) (by kernel_rfl) trivial ?_
    refine good_call (c := True) (by kernel_rfl) (fun _ => SVles.refl _) (fun _ => s24 (l) (by (first | omega | assumption | exact ⟨rfl, trivial⟩ | simp only [AllP, inK_iff, roomOK_iff, decide_eq_true_eq, Bool.and_eq_true, Bool.or_eq_true, Bool.not_eq_true', decide_eq_false_iff_not, and_true, true_and]; (first | omega | (and_intros <;> intros <;> (try and_intros) <;> first | omega | assumption | exact trivial))))) (by kernel_rfl) ?_
    refine good_run 11 (obs := []) (by kernel_rfl) trivial ?_
    refine good_call (c := True) (by kernel_rfl) (fun _ => SVles.refl _) (fun _ => s25 ((restL l).fst) ((restL l).fst)) (by kernel_rfl) ?_
    refine good_run 9 (obs := []) (by kernel_rfl) trivial ?_
    refine good_fin [(decide ((restL l).fst = (restL l).fst) && decide ((restL l).snd = (restL l).snd)) = true] (by kernel_rfl) ⟨?_, trivial⟩
    simp
end Go.Sx.T
