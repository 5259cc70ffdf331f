/- Contracts of functions of the program, each proved by running its code symbolically (QP). -/
import Derived.Test.YtepkgkdbnoiieaaQO
namespace Go.Sx.T
open Go Go.Proofs Go.Sx
set_option maxRecDepth 100000
set_option maxHeartbeats 8000000
set_option linter.unusedVariables false
set_option linter.unusedSimpArgs false
def placesL (l m : List Int) : List Int := l.map fun n => findI m (eqK n)
theorem placesL_len (l m : List Int) : (placesL l m).length = l.length := List.length_map _
theorem placesL_at (l m : List Int) (i : Nat) (h : i < l.length) : (placesL l m).getD i 0 = findI m (eqK (l.getD i 0)) := by
  rw [getD_of_lt (placesL l m) i (by rw [placesL_len]; exact h), getD_of_lt l i h]
  unfold placesL
  rw [List.getElem_map]
def betL (l m : List Int) : Int × Int := if chkL l = 0 then if chkL m = 0 then if isort l = isort m then ((msC l.length (placesL l m)).2, 0) else (0, 10) else (0, chkL m) else (0, chkL l)
theorem c42 (l m : List Int) (hl : l.length ≤ 1000) : Spec Try.prog 42 [.lst 1 l.length fun i => [.int .i64 ((placesL l m).getD i 0)]] (.int .i64 (msC l.length (placesL l m)).2) := by
  have := s42 (placesL l m) (by rw [placesL_len]; exact hl)
  unfold ints at this
  rw [placesL_len] at this
  exact this
theorem c22 (l m : List Int) : Spec Try.prog 22 [.lst 1 l.length fun i => [.int .i64 ((isort l).getD i 0)], .lst 1 m.length fun i => [.int .i64 ((isort m).getD i 0)]] (.bool (decide (isort l = isort m))) := by
  have := s22 (isort l) (isort m)
  unfold ints at this
  rw [isort_length, isort_length] at this
  exact this
theorem s29 (l m : List Int) (hl : l.length ≤ 100000) (hm : m.length ≤ 100000) : Spec Try.prog 29 [ints l, ints m] (.tup [.int .i64 (betL l m).1, .int .i64 (betL l m).2]) := by
  refine spec_of_good mixed Try.func29 F29_ok (by kernel_rfl) ?_
  have hcl := s20 l hl
  have hcm := s20 m hm
  have h31l := s31 l hl
  have h31m := s31 m hm
  refine good_run 17 (obs := []) (by kernel_rfl) trivial ?_
  refine good_loopJ (fun k : Nat => ⟨[(16, .sv (.int .i64 (k))), (15, LV.sv (SV.int IntKind.i64 (2 : Int))), (14, LV.own (0 : Nat)), (0, LV.sv (SV.lst (1 : Nat) (List.length l) fun i => [SV.int IntKind.i64 (List.getD l i (0 : Int))])), (1, LV.sv (SV.lst (1 : Nat) (List.length m) fun i => [SV.int IntKind.i64 (List.getD m i (0 : Int))]))], [Blk.row (22 : Nat) (1 : Nat) (2 : Nat) true (cutRows (1 : Nat) [SV.lst (1 : Nat) (List.length l) fun i => [SV.int IntKind.i64 (List.getD l i (0 : Int))], SV.lst (1 : Nat) (List.length m) fun i => [SV.int IntKind.i64 (List.getD m i (0 : Int))]])]⟩) (fun k => (k = 0 ∨ k = 1 ∨ k = 2) ∧ (1 ≤ k → chkL l = 0) ∧ (2 ≤ k → chkL m = 0)) (fun k => 2 - k) (0) [(2 : Nat) = (2 : Nat) ∧ ∀ (i : Nat), i < (2 : Nat) → cutRows (1 : Nat) [SV.lst (1 : Nat) (List.length l) fun i => [SV.int IntKind.i64 (List.getD l i (0 : Int))], SV.lst (1 : Nat) (List.length m) fun i => [SV.int IntKind.i64 (List.getD m i (0 : Int))]] i = cutRows (1 : Nat) [SV.lst (1 : Nat) (List.length l) fun i => [SV.int IntKind.i64 (List.getD l i (0 : Int))], SV.lst (1 : Nat) (List.length m) fun i => [SV.int IntKind.i64 (List.getD m i (0 : Int))]] i, (0 : Int) = (0 : Int), (2 : Int) = (2 : Int), List.length l = List.length l ∧ ∀ (i : Nat), i < List.length l → (fun i => [SV.int IntKind.i64 (List.getD l i (0 : Int))]) i = (fun i => [SV.int IntKind.i64 (List.getD l i (0 : Int))]) i, List.length m = List.length m ∧ ∀ (i : Nat), i < List.length m → (fun i => [SV.int IntKind.i64 (List.getD m i (0 : Int))]) i = (fun i => [SV.int IntKind.i64 (List.getD m i (0 : Int))]) i] (by kernel_rfl) (by kernel_rfl) ⟨⟨rfl, fun _ _ => rfl⟩, rfl, rfl, ⟨rfl, fun _ _ => rfl⟩, ⟨rfl, fun _ _ => rfl⟩, trivial⟩ (by omega) ?_
  all_goals skip
  rintro k ⟨rfl | rfl | rfl, hk1, hk2⟩
  · refine good_run 6 (obs := []) (by kernel_rfl) trivial ?_
    refine good_cond true (by kernel_rfl) (fun _ => ?_) (fun h => nomatch h)
    refine good_run 13 (obs := [(1 : Nat) = (1 : Nat) ∧ (0 : Int) ≤ (0 : Int) ∧ (0 : Int) < (2 : Int)]) (by kernel_rfl) (by (first | omega | assumption | exact ⟨rfl, trivial⟩ | simp only [AllP, inK_iff, roomOK_iff, decide_eq_true_eq, Bool.and_eq_true, Bool.or_eq_true, Bool.not_eq_true', decide_eq_false_iff_not, and_true, true_and]; (first | omega | (and_intros <;> intros <;> (try and_intros) <;> first | omega | assumption | exact trivial)))) ?_
    refine good_call (c := True) (by kernel_rfl) (fun _ => SVles.refl _) (fun _ => s20 (l) (by (first | omega | assumption | exact ⟨rfl, trivial⟩ | simp only [AllP, inK_iff, roomOK_iff, decide_eq_true_eq, Bool.and_eq_true, Bool.or_eq_true, Bool.not_eq_true', decide_eq_false_iff_not, and_true, true_and]; (first | omega | (and_intros <;> intros <;> (try and_intros) <;> first | omega | assumption | exact trivial))))) (by kernel_rfl) ?_
    refine good_run 9 (obs := []) (by kernel_rfl) trivial ?_
    refine good_cond (!decide (chkL l = (0 : Int))) (by kernel_rfl) (fun hc1 => ?_) (fun hc1 => ?_)
    · have e : betL l m = (0, chkL l) := if_neg (by simpa using hc1)
      rw [e]
      refine good_run 10 (obs := []) (by kernel_rfl) trivial ?_
      refine good_leaveJ (by kernel_rfl) ?_
      refine good_run 2 (obs := []) (by kernel_rfl) trivial ?_
      refine good_fin [(0 : Int) = (0 : Int), chkL l = chkL l] (by kernel_rfl) ⟨rfl, rfl, trivial⟩
    · have hc : chkL l = 0 := by simpa using hc1
      refine good_run 7 (obs := [InK IntKind.i64 ((0 : Int) + (1 : Int))]) (by kernel_rfl) (by (first | omega | assumption | exact ⟨rfl, trivial⟩ | simp only [AllP, inK_iff, roomOK_iff, decide_eq_true_eq, Bool.and_eq_true, Bool.or_eq_true, Bool.not_eq_true', decide_eq_false_iff_not, and_true, true_and]; (first | omega | (and_intros <;> intros <;> (try and_intros) <;> first | omega | assumption | exact trivial)))) ?_
      refine good_backJ (1) [(2 : Nat) = (2 : Nat) ∧ ∀ (i : Nat), i < (2 : Nat) → cutRows (1 : Nat) [SV.lst (1 : Nat) (List.length l) fun i => [SV.int IntKind.i64 (List.getD l i (0 : Int))], SV.lst (1 : Nat) (List.length m) fun i => [SV.int IntKind.i64 (List.getD m i (0 : Int))]] i = cutRows (1 : Nat) [SV.lst (1 : Nat) (List.length l) fun i => [SV.int IntKind.i64 (List.getD l i (0 : Int))], SV.lst (1 : Nat) (List.length m) fun i => [SV.int IntKind.i64 (List.getD m i (0 : Int))]] i, (0 : Int) + (1 : Int) = (1 : Int), (2 : Int) = (2 : Int), List.length l = List.length l ∧ ∀ (i : Nat), i < List.length l → (fun i => [SV.int IntKind.i64 (List.getD l i (0 : Int))]) i = (fun i => [SV.int IntKind.i64 (List.getD l i (0 : Int))]) i, List.length m = List.length m ∧ ∀ (i : Nat), i < List.length m → (fun i => [SV.int IntKind.i64 (List.getD m i (0 : Int))]) i = (fun i => [SV.int IntKind.i64 (List.getD m i (0 : Int))]) i] (by kernel_rfl) (by kernel_rfl) ⟨⟨rfl, fun _ _ => rfl⟩, (by omega), rfl, ⟨rfl, fun _ _ => rfl⟩, ⟨rfl, fun _ _ => rfl⟩, trivial⟩ (by omega) (by show _ < _; omega)
      all_goals skip
      done
  · have hcl0 := hk1 (Nat.le_refl _)
    refine good_run 6 (obs := []) (by kernel_rfl) trivial ?_
    refine good_cond true (by kernel_rfl) (fun _ => ?_) (fun h => nomatch h)
    refine good_run 13 (obs := [(1 : Nat) = (1 : Nat) ∧ (0 : Int) ≤ (1 : Int) ∧ (1 : Int) < (2 : Int)]) (by kernel_rfl) (by (first | omega | assumption | exact ⟨rfl, trivial⟩ | simp only [AllP, inK_iff, roomOK_iff, decide_eq_true_eq, Bool.and_eq_true, Bool.or_eq_true, Bool.not_eq_true', decide_eq_false_iff_not, and_true, true_and]; (first | omega | (and_intros <;> intros <;> (try and_intros) <;> first | omega | assumption | exact trivial)))) ?_
    refine good_call (c := True) (by kernel_rfl) (fun _ => SVles.refl _) (fun _ => s20 (m) (by (first | omega | assumption | exact ⟨rfl, trivial⟩ | simp only [AllP, inK_iff, roomOK_iff, decide_eq_true_eq, Bool.and_eq_true, Bool.or_eq_true, Bool.not_eq_true', decide_eq_false_iff_not, and_true, true_and]; (first | omega | (and_intros <;> intros <;> (try and_intros) <;> first | omega | assumption | exact trivial))))) (by kernel_rfl) ?_
    refine good_run 9 (obs := []) (by kernel_rfl) trivial ?_
    refine good_cond (!decide (chkL m = (0 : Int))) (by kernel_rfl) (fun hc1 => ?_) (fun hc1 => ?_)
    · have e : betL l m = (0, chkL m) := by
        unfold betL
        rw [if_pos hcl0, if_neg (by simpa using hc1)]
      rw [e]
      refine good_run 10 (obs := []) (by kernel_rfl) trivial ?_
      refine good_leaveJ (by kernel_rfl) ?_
      refine good_run 2 (obs := []) (by kernel_rfl) trivial ?_
      refine good_fin [(0 : Int) = (0 : Int), chkL m = chkL m] (by kernel_rfl) ⟨rfl, rfl, trivial⟩
    · have hc : chkL m = 0 := by simpa using hc1
      refine good_run 7 (obs := [InK IntKind.i64 ((1 : Int) + (1 : Int))]) (by kernel_rfl) (by (first | omega | assumption | exact ⟨rfl, trivial⟩ | simp only [AllP, inK_iff, roomOK_iff, decide_eq_true_eq, Bool.and_eq_true, Bool.or_eq_true, Bool.not_eq_true', decide_eq_false_iff_not, and_true, true_and]; (first | omega | (and_intros <;> intros <;> (try and_intros) <;> first | omega | assumption | exact trivial)))) ?_
      refine good_backJ (2) [(2 : Nat) = (2 : Nat) ∧ ∀ (i : Nat), i < (2 : Nat) → cutRows (1 : Nat) [SV.lst (1 : Nat) (List.length l) fun i => [SV.int IntKind.i64 (List.getD l i (0 : Int))], SV.lst (1 : Nat) (List.length m) fun i => [SV.int IntKind.i64 (List.getD m i (0 : Int))]] i = cutRows (1 : Nat) [SV.lst (1 : Nat) (List.length l) fun i => [SV.int IntKind.i64 (List.getD l i (0 : Int))], SV.lst (1 : Nat) (List.length m) fun i => [SV.int IntKind.i64 (List.getD m i (0 : Int))]] i, (1 : Int) + (1 : Int) = (2 : Int), (2 : Int) = (2 : Int), List.length l = List.length l ∧ ∀ (i : Nat), i < List.length l → (fun i => [SV.int IntKind.i64 (List.getD l i (0 : Int))]) i = (fun i => [SV.int IntKind.i64 (List.getD l i (0 : Int))]) i, List.length m = List.length m ∧ ∀ (i : Nat), i < List.length m → (fun i => [SV.int IntKind.i64 (List.getD m i (0 : Int))]) i = (fun i => [SV.int IntKind.i64 (List.getD m i (0 : Int))]) i] (by kernel_rfl) (by kernel_rfl) ⟨⟨rfl, fun _ _ => rfl⟩, (by omega), rfl, ⟨rfl, fun _ _ => rfl⟩, ⟨rfl, fun _ _ => rfl⟩, trivial⟩ (by omega) (by show _ < _; omega)
      all_goals skip
      done
  · have hcl0 := hk1 (by omega)
    have hcm0 := hk2 (by omega)
    have hlb := (chk_pos hcl0).1
    have h22 := c22 l m
    have e : betL l m = if isort l = isort m then ((msC l.length (placesL l m)).2, 0) else (0, 10) := by
      unfold betL
      rw [if_pos hcl0, if_pos hcm0]
    rw [e]
    refine good_run 6 (obs := []) (by kernel_rfl) trivial ?_
    refine good_cond false (by kernel_rfl) (fun h => nomatch h) (fun _ => ?_)
    refine good_run 2 (obs := []) (by kernel_rfl) trivial ?_
    refine good_leaveJ (by kernel_rfl) ?_
    refine good_run 5 (obs := []) (by kernel_rfl) trivial ?_
    refine good_call (c := True) (by kernel_rfl) (fun _ => SVles.refl _) (fun _ => s32 (l)) (by kernel_rfl) ?_
    refine good_own (c := True) (by kernel_rfl) (by kernel_rfl) (SVles.refl _) (s31 (l) (by (first | omega | assumption | exact ⟨rfl, trivial⟩ | simp only [AllP, inK_iff, roomOK_iff, decide_eq_true_eq, Bool.and_eq_true, Bool.or_eq_true, Bool.not_eq_true', decide_eq_false_iff_not, and_true, true_and]; (first | omega | (and_intros <;> intros <;> (try and_intros) <;> first | omega | assumption | exact trivial))))) ?_
    refine good_run 1 (obs := []) (by kernel_rfl) trivial ?_
    refine good_call (c := True) (by kernel_rfl) (fun _ => SVles.refl _) (fun _ => s32 (m)) (by kernel_rfl) ?_
    refine good_own (c := True) (by kernel_rfl) (by kernel_rfl) (SVles.refl _) (s31 (m) (by (first | omega | assumption | exact ⟨rfl, trivial⟩ | simp only [AllP, inK_iff, roomOK_iff, decide_eq_true_eq, Bool.and_eq_true, Bool.or_eq_true, Bool.not_eq_true', decide_eq_false_iff_not, and_true, true_and]; (first | omega | (and_intros <;> intros <;> (try and_intros) <;> first | omega | assumption | exact trivial))))) ?_
    refine good_call (c := True) (by kernel_rfl) (fun _ => SVles.refl _) (fun _ => h22) (by kernel_rfl) ?_
    refine good_run 3 (obs := []) (by kernel_rfl) trivial ?_
    refine good_cond (!decide (isort l = isort m)) (by kernel_rfl) (fun hc1 => ?_) (fun hc1 => ?_)
    · rw [if_neg (by simpa using hc1)]
      refine good_run 8 (obs := []) (by kernel_rfl) trivial ?_
      refine good_fin [(0 : Int) = (0 : Int), (10 : Int) = (10 : Int)] (by kernel_rfl) ⟨rfl, rfl, trivial⟩
    · rw [if_pos (by simpa using hc1)]
      have h42 := c42 l m (by omega)
      refine good_run 15 (obs := []) (by kernel_rfl) trivial ?_
      refine good_loopJ (fun k : Nat => ⟨[(36, .sv (.int .i64 (k))), (9, .own 3), (35, LV.sv (SV.int IntKind.i64 (↑(List.length l) : Int))), (34, LV.sv (SV.lst (1 : Nat) (List.length l) fun i => [SV.int IntKind.i64 (List.getD l i (0 : Int))])), (1, LV.sv (SV.lst (1 : Nat) (List.length m) fun i => [SV.int IntKind.i64 (List.getD m i (0 : Int))]))], [Blk.row (22 : Nat) (1 : Nat) (2 : Nat) true (cutRows (1 : Nat) [SV.lst (1 : Nat) (List.length l) fun i => [SV.int IntKind.i64 (List.getD l i (0 : Int))], SV.lst (1 : Nat) (List.length m) fun i => [SV.int IntKind.i64 (List.getD m i (0 : Int))]]), Blk.row (3 : Nat) (1 : Nat) (List.length l) true fun i => [SV.int IntKind.i64 (List.getD (isort l) i (0 : Int))], Blk.row (3 : Nat) (1 : Nat) (List.length m) true fun i => [SV.int IntKind.i64 (List.getD (isort m) i (0 : Int))], .row 3 1 k true fun i => [.int .i64 ((placesL l m).getD i 0)]]⟩) (fun k => k ≤ l.length) (fun k => l.length - k) (0) [(2 : Nat) = (2 : Nat) ∧ ∀ (i : Nat), i < (2 : Nat) → cutRows (1 : Nat) [SV.lst (1 : Nat) (List.length l) fun i => [SV.int IntKind.i64 (List.getD l i (0 : Int))], SV.lst (1 : Nat) (List.length m) fun i => [SV.int IntKind.i64 (List.getD m i (0 : Int))]] i = cutRows (1 : Nat) [SV.lst (1 : Nat) (List.length l) fun i => [SV.int IntKind.i64 (List.getD l i (0 : Int))], SV.lst (1 : Nat) (List.length m) fun i => [SV.int IntKind.i64 (List.getD m i (0 : Int))]] i, List.length l = List.length l ∧ ∀ (i : Nat), i < List.length l → (fun i => [SV.int IntKind.i64 (List.getD (isort l) i (0 : Int))]) i = (fun i => [SV.int IntKind.i64 (List.getD (isort l) i (0 : Int))]) i, List.length m = List.length m ∧ ∀ (i : Nat), i < List.length m → (fun i => [SV.int IntKind.i64 (List.getD (isort m) i (0 : Int))]) i = (fun i => [SV.int IntKind.i64 (List.getD (isort m) i (0 : Int))]) i, (0 : Nat) = (0 : Nat), (0 : Int) = (0 : Int), (↑(List.length l) : Int) = (↑(List.length l) : Int), List.length l = List.length l ∧ ∀ (i : Nat), i < List.length l → (fun i => [SV.int IntKind.i64 (List.getD l i (0 : Int))]) i = (fun i => [SV.int IntKind.i64 (List.getD l i (0 : Int))]) i, List.length m = List.length m ∧ ∀ (i : Nat), i < List.length m → (fun i => [SV.int IntKind.i64 (List.getD m i (0 : Int))]) i = (fun i => [SV.int IntKind.i64 (List.getD m i (0 : Int))]) i] (by kernel_rfl) (by kernel_rfl) ⟨⟨rfl, fun _ _ => rfl⟩, ⟨rfl, fun _ _ => rfl⟩, ⟨rfl, fun _ _ => rfl⟩, rfl, rfl, rfl, ⟨rfl, fun _ _ => rfl⟩, ⟨rfl, fun _ _ => rfl⟩, trivial⟩ (by omega) ?_
      intro k hk
      refine good_run 6 (obs := []) (by kernel_rfl) trivial ?_
      refine good_cond (decide ((↑k : Int) < (↑(List.length l) : Int))) (by kernel_rfl) (fun hc2 => ?_) (fun hc2 => ?_)
      · have hlt : k < l.length := by simp only [decide_eq_true_eq] at hc2; omega
        have hp := placesL_at l m k hlt
        refine good_run 14 (obs := [(1 : Nat) = (1 : Nat) ∧ (0 : Int) ≤ (↑k : Int) ∧ (↑k : Int) < (↑(List.length l) : Int)]) (by kernel_rfl) (by (first | omega | assumption | exact ⟨rfl, trivial⟩ | simp only [AllP, inK_iff, roomOK_iff, decide_eq_true_eq, Bool.and_eq_true, Bool.or_eq_true, Bool.not_eq_true', decide_eq_false_iff_not, and_true, true_and]; (first | omega | (and_intros <;> intros <;> (try and_intros) <;> first | omega | assumption | exact trivial)))) ?_
        refine good_call (c := True) (by kernel_rfl) (fun _ => SVles.refl _) (fun _ => s37 (m) (List.getD l k (0 : Int))) (by kernel_rfl) ?_
        refine good_run 11 (obs := [(3 : Nat) = (3 : Nat) ∧ (1 : Nat) = (1 : Nat) ∧ (1 : Nat) = (1 : Nat) ∧ roomOK (k + (1 : Nat)) (8 : Nat), InK IntKind.i64 ((↑k : Int) + (1 : Int))]) (by kernel_rfl) (by (first | omega | assumption | exact ⟨rfl, trivial⟩ | simp only [AllP, inK_iff, roomOK_iff, decide_eq_true_eq, Bool.and_eq_true, Bool.or_eq_true, Bool.not_eq_true', decide_eq_false_iff_not, and_true, true_and]; (first | omega | (and_intros <;> intros <;> (try and_intros) <;> first | omega | assumption | exact trivial)))) ?_
        refine good_backJ (k + 1) [(2 : Nat) = (2 : Nat) ∧ ∀ (i : Nat), i < (2 : Nat) → cutRows (1 : Nat) [SV.lst (1 : Nat) (List.length l) fun i => [SV.int IntKind.i64 (List.getD l i (0 : Int))], SV.lst (1 : Nat) (List.length m) fun i => [SV.int IntKind.i64 (List.getD m i (0 : Int))]] i = cutRows (1 : Nat) [SV.lst (1 : Nat) (List.length l) fun i => [SV.int IntKind.i64 (List.getD l i (0 : Int))], SV.lst (1 : Nat) (List.length m) fun i => [SV.int IntKind.i64 (List.getD m i (0 : Int))]] i, List.length l = List.length l ∧ ∀ (i : Nat), i < List.length l → (fun i => [SV.int IntKind.i64 (List.getD (isort l) i (0 : Int))]) i = (fun i => [SV.int IntKind.i64 (List.getD (isort l) i (0 : Int))]) i, List.length m = List.length m ∧ ∀ (i : Nat), i < List.length m → (fun i => [SV.int IntKind.i64 (List.getD (isort m) i (0 : Int))]) i = (fun i => [SV.int IntKind.i64 (List.getD (isort m) i (0 : Int))]) i, k + (1 : Nat) = k + (1 : Nat) ∧ ∀ (i : Nat), i < k + (1 : Nat) → joinGet k (fun i => [SV.int IntKind.i64 (List.getD (placesL l m) i (0 : Int))]) (cutRows (1 : Nat) [SV.int IntKind.i64 (findI m (eqK (List.getD l k (0 : Int))))]) i = (fun i => [SV.int IntKind.i64 (List.getD (placesL l m) i (0 : Int))]) i, (↑k : Int) + (1 : Int) = (↑(k + (1 : Nat)) : Int), (↑(List.length l) : Int) = (↑(List.length l) : Int), List.length l = List.length l ∧ ∀ (i : Nat), i < List.length l → (fun i => [SV.int IntKind.i64 (List.getD l i (0 : Int))]) i = (fun i => [SV.int IntKind.i64 (List.getD l i (0 : Int))]) i, List.length m = List.length m ∧ ∀ (i : Nat), i < List.length m → (fun i => [SV.int IntKind.i64 (List.getD m i (0 : Int))]) i = (fun i => [SV.int IntKind.i64 (List.getD m i (0 : Int))]) i] (by kernel_rfl) (by kernel_rfl) ⟨⟨rfl, fun _ _ => rfl⟩, ⟨rfl, fun _ _ => rfl⟩, ⟨rfl, fun _ _ => rfl⟩, ?_, (by omega), rfl, ⟨rfl, fun _ _ => rfl⟩, ⟨rfl, fun _ _ => rfl⟩, trivial⟩ (by omega) (by show _ < _; omega)
        refine ⟨rfl, fun i hi => ?_⟩
        unfold joinGet
        by_cases h : i < k
        · rw [if_pos h]
        · rw [if_neg h, show i = k by omega]
          show _ = [SV.int .i64 ((placesL l m).getD k 0)]
          rw [hp, Nat.sub_self]; rfl
      · have : k = l.length := by simp only [decide_eq_false_iff_not] at hc2; omega
        subst this
        refine good_run 2 (obs := []) (by kernel_rfl) trivial ?_
        refine good_leaveJ (by kernel_rfl) ?_
        refine good_run 4 (obs := []) (by kernel_rfl) trivial ?_
        refine good_call (c := True) (by kernel_rfl) (fun _ => SVles.refl _) (fun _ => h42) (by kernel_rfl) ?_
        refine good_run 5 (obs := []) (by kernel_rfl) trivial ?_
        refine good_fin [(msC (List.length l) (placesL l m)).snd = (msC (List.length l) (placesL l m)).snd, (0 : Int) = (0 : Int)] (by kernel_rfl) ⟨rfl, rfl, trivial⟩
end Go.Sx.T
