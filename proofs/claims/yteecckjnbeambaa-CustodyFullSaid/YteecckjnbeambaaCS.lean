/- Contracts of functions of the program, each proved by running its code symbolically (CS). -/
import Derived.Test.YteecckjnbeambaaCP
namespace Go.Sx.T
open Go Go.Proofs Go.Sx
set_option maxRecDepth 100000
set_option maxHeartbeats 4000000
set_option linter.unusedVariables false
set_option linter.unusedSimpArgs false
/-! A full ledger. -/
def plK (k : Nat) : Place := if k % 2 = 0 then ⟨0, 0⟩ else ⟨4, 0⟩
def fullM (box day : Int) (k : Nat) : Move := ⟨day, box, plK k, plK (k + 1)⟩
def fullL (box day : Int) (n : Nat) : List Move := (List.range n).map (fullM box day)
theorem fullL_len (box day : Int) (n : Nat) : (fullL box day n).length = n := by simp [fullL]
theorem fullL_succ (box day : Int) (n : Nat) : fullL box day (n + 1) = fullL box day n ++ [fullM box day n] := by
  unfold fullL; rw [List.range_succ, List.map_append]; rfl
theorem fullL_take (box day : Int) (n k : Nat) (h : k ≤ n) : (fullL box day n).take k = fullL box day k := by
  unfold fullL; rw [← List.map_take, List.take_range, Nat.min_eq_left h]
theorem fullL_get (box day : Int) (n k : Nat) (h : k < n) : (fullL box day n).getD k default = fullM box day k := by
  unfold fullL
  rw [getD_map (d := 0) _ _ _ (by simpa using h), getD_of_lt _ _ (by simpa using h), List.getElem_range]
theorem plK_ne (k : Nat) : plK k ≠ plK (k + 1) := by
  unfold plK
  rcases Nat.mod_two_eq_zero_or_one k with h | h
  · rw [if_pos h, if_neg (by omega)]; decide
  · rw [if_neg (by omega), if_pos (by omega)]; decide
theorem plK_ok (k : Nat) : placed (plK k) = true := by
  unfold plK; split <;> decide
theorem plK_two (k : Nat) : plK (k + 1 + 1) = plK k := by
  unfold plK
  rw [show (k + 1 + 1) % 2 = k % 2 by omega]
theorem full_last (box day : Int) : ∀ n, lastP (fullL box day n) box = plK n
  | 0 => rfl
  | n + 1 => by rw [fullL_succ, lastP_snoc, if_pos (show (fullM box day n).Box = box from rfl)]; rfl
theorem full_form (box day : Int) (n : Nat) : formE (fullL box day n) (fullM box day n) = if okId box = true ∧ okDay day = true then 0 else 2 := by
  by_cases h : okId box = true ∧ okDay day = true
  · rw [if_pos h, formE_zero]
    refine ⟨?_, plK_ne n, ?_, full_last box day n⟩
    · show (okDay day && okId box && placed (plK n) && placed (plK (n + 1))) = true
      rw [h.1, h.2, plK_ok, plK_ok]; rfl
    · show dayL (fullL box day n) ≤ day
      cases n with
      | zero =>
        have := h.2
        simp only [okDay, Bool.and_eq_true, decide_eq_true_eq] at this
        show (0 : Int) ≤ day
        omega
      | succ n => rw [fullL_succ, dayL_snoc]; exact Int.le_refl _
  · rw [if_neg h, formE, if_pos]
    show (okDay day && okId box && placed (plK n) && placed (plK (n + 1))) = false
    cases h1 : okDay day
    · rfl
    · cases h2 : okId box
      · rfl
      · exact (h ⟨h2, h1⟩).elim
theorem full_check (box day : Int) (n : Nat) (h0 : 0 < n) (hn : n ≤ 1024) : checkL (fullL box day n) = if okId box = true ∧ okDay day = true then 0 else 2 := by
  have he : ∀ k, k < n → errAt (fullL box day n) k = if okId box = true ∧ okDay day = true then 0 else 2 := fun k hk => by
    unfold errAt
    rw [fullL_take _ _ _ _ (by omega), fullL_get _ _ _ _ hk]
    exact full_form box day k
  by_cases h : okId box = true ∧ okDay day = true
  · rw [if_pos h, checkL_iff, fullL_len]
    exact ⟨hn, fun k hk => by rw [he k hk, if_pos h]⟩
  · rw [if_neg h, checkL, if_neg (by rw [fullL_len]; omega), fullL_len]
    obtain ⟨m, rfl⟩ : ∃ m, n = m + 1 := ⟨n - 1, by omega⟩
    rw [errFrom, he 0 (by omega), if_neg h, if_pos (by decide)]
theorem full_append (box day : Int) : appendL (fullL box day 1024) (fullM box day 1024) = if okId box = true ∧ okDay day = true then ([], 12) else ([], 1) := by
  have hc := full_check box day 1024 (by decide) (by decide)
  unfold appendL
  by_cases h : okId box = true ∧ okDay day = true
  · rw [if_pos h] at hc ⊢
    rw [if_neg (by rw [hc]; decide), if_pos (fullL_len _ _ _)]
  · rw [if_neg h] at hc ⊢
    rw [if_pos (by rw [hc]; decide)]
theorem full_more (l : List Move) (h : l.length = 1025) : checkL l = 8 := by rw [checkL, if_pos (by omega)]
theorem full_le (box day : Int) : SVle (.lst 6 (1024 + 1) (joinGet 1024 (fun i => ((fullL box day 1024).getD i default).cells) (cutRows 6 [.int .i64 day, .int .i64 box, .int .i64 (plK 1024).Kind, .int .i64 (plK 1024).Of, .int .i64 (plK (1024 + 1)).Kind, .int .i64 (plK (1024 + 1)).Of]))) (moves (fullL box day 1024 ++ [fullM box day 1024])) := by
  have h := row_snoc' Move.cells default (fullL box day 1024) (fullM box day 1024) 6 rfl
  rw [fullL_len] at h
  exact svle_lst h.1 fun i hi => by rw [show joinGet 1024 (fun i => ((fullL box day 1024).getD i default).cells) (cutRows 6 [.int .i64 day, .int .i64 box, .int .i64 (plK 1024).Kind, .int .i64 (plK 1024).Of, .int .i64 (plK (1024 + 1)).Kind, .int .i64 (plK (1024 + 1)).Of]) i = _ from h.2 i hi]; exact SVles.refl _
theorem s4 (box day : Int) : Spec Try.prog 4 [.int .i64 box, .int .i64 day] (.bool true) := by
  refine spec_of_good mixed Try.func4 F4_ok (by kernel_rfl) ?_
  refine good_run 8 (obs := []) (by kernel_rfl) trivial ?_
  refine good_call (c := True) (by kernel_rfl) (fun _ => SVles.refl _) (fun _ => s10) (by kernel_rfl) ?_
  refine good_run 3 (obs := []) (by kernel_rfl) trivial ?_
  refine good_cond false (by kernel_rfl) (fun h => nomatch h) (fun _ => ?_)
  refine good_run 23 (obs := [(2 : Nat) = (2 : Nat) ∧ (0 : Nat) + (2 : Nat) ≤ (2 : Nat), (2 : Nat) = (2 : Nat) ∧ (0 : Nat) + (2 : Nat) ≤ (2 : Nat)]) (by kernel_rfl) (by (first | omega | assumption | exact ⟨rfl, trivial⟩ | exact ⟨rfl, rfl, trivial⟩ | exact ⟨rfl, rfl, rfl, rfl, rfl, trivial⟩ | simp only [AllP, inK_iff, roomOK_iff, decide_eq_true_eq, Bool.and_eq_true, Bool.or_eq_true, Bool.not_eq_true', decide_eq_false_iff_not, and_true, true_and]; (first | omega | (and_intros <;> intros <;> (try and_intros) <;> first | omega | assumption | exact trivial)))) ?_
  refine good_loopJ (fun k : Nat => ⟨[(16, .sv (.int .i64 (k))), (5, .own 2), (7, LV.ptr (1 : Nat) (0 : Nat)), (6, LV.ptr (0 : Nat) (0 : Nat)), (0, LV.sv (SV.int IntKind.i64 box)), (1, LV.sv (SV.int IntKind.i64 day))], [.cells 24 true [.int .i64 (plK k).Kind, .int .i64 (plK k).Of], .cells 24 true [.int .i64 (plK (k + 1)).Kind, .int .i64 (plK (k + 1)).Of], .row 26 6 (fullL box day k).length true fun i => ((fullL box day k).getD i default).cells]⟩) (fun k => k ≤ 1024) (fun k => 1024 - k) (0) [(0 : Int) = (plK (0 : Nat)).Kind, (0 : Int) = (plK (0 : Nat)).Of, (4 : Int) = (plK ((0 : Nat) + (1 : Nat))).Kind, (0 : Int) = (plK ((0 : Nat) + (1 : Nat))).Of, (0 : Nat) = (0 : Nat), (0 : Int) = (0 : Int), box = box, day = day] (by kernel_rfl) (by kernel_rfl) ⟨(by rfl), (by rfl), (by rfl), (by rfl), rfl, rfl, rfl, rfl, trivial⟩ (by omega) ?_
  intro k hk
  have hkl := fullL_len box day k
  refine good_run 6 (obs := []) (by kernel_rfl) trivial ?_
  refine good_cond (decide ((↑k : Int) < (1024 : Int))) (by kernel_rfl) (fun hc1 => ?_) (fun hc1 => ?_)
  · have hlt : k < 1024 := by simp only [decide_eq_true_eq] at hc1; omega
    refine good_run 29 (obs := [(0 : Nat) + (2 : Nat) ≤ (2 : Nat), (0 : Nat) + (2 : Nat) ≤ (2 : Nat), (26 : Nat) = (26 : Nat) ∧ (6 : Nat) = (6 : Nat) ∧ (6 : Nat) = (6 : Nat) ∧ roomOK (List.length (fullL box day k) + (1 : Nat)) (48 : Nat), (0 : Nat) + (2 : Nat) ≤ (2 : Nat), (0 : Nat) + (2 : Nat) ≤ (2 : Nat), (2 : Nat) = (2 : Nat) ∧ (0 : Nat) + (2 : Nat) ≤ (2 : Nat), (2 : Nat) = (2 : Nat) ∧ (0 : Nat) + (2 : Nat) ≤ (2 : Nat), InK IntKind.i64 ((↑k : Int) + (1 : Int))]) (by kernel_rfl) (by (first | omega | assumption | exact ⟨rfl, trivial⟩ | exact ⟨rfl, rfl, trivial⟩ | exact ⟨rfl, rfl, rfl, rfl, rfl, trivial⟩ | simp only [AllP, inK_iff, roomOK_iff, decide_eq_true_eq, Bool.and_eq_true, Bool.or_eq_true, Bool.not_eq_true', decide_eq_false_iff_not, and_true, true_and]; (first | omega | (and_intros <;> intros <;> (try and_intros) <;> first | omega | assumption | exact trivial)))) ?_
    refine good_backJ (k + 1) [(plK (k + (1 : Nat))).Kind = (plK (k + (1 : Nat))).Kind, (plK (k + (1 : Nat))).Of = (plK (k + (1 : Nat))).Of, (plK k).Kind = (plK (k + (1 : Nat) + (1 : Nat))).Kind, (plK k).Of = (plK (k + (1 : Nat) + (1 : Nat))).Of, List.length (fullL box day k) + (1 : Nat) = List.length (fullL box day (k + (1 : Nat))) ∧ ∀ (i : Nat), i < List.length (fullL box day k) + (1 : Nat) → joinGet (List.length (fullL box day k)) (fun i => Move.cells (List.getD (fullL box day k) i default)) (cutRows (6 : Nat) [SV.int IntKind.i64 day, SV.int IntKind.i64 box, SV.int IntKind.i64 (plK k).Kind, SV.int IntKind.i64 (plK k).Of, SV.int IntKind.i64 (plK (k + (1 : Nat))).Kind, SV.int IntKind.i64 (plK (k + (1 : Nat))).Of]) i = (fun i => Move.cells (List.getD (fullL box day (k + (1 : Nat))) i default)) i, (↑k : Int) + (1 : Int) = (↑(k + (1 : Nat)) : Int), box = box, day = day] (by kernel_rfl) (by kernel_rfl) ⟨rfl, rfl, ?_, ?_, ?_, (by omega), rfl, rfl, trivial⟩ (by omega) (by show _ < _; omega)
    · rw [plK_two]
    · rw [plK_two]
    · rw [fullL_succ]
      exact row_snoc' Move.cells default (fullL box day k) (fullM box day k) 6 rfl
  · have hge : k = 1024 := by simp only [decide_eq_false_iff_not] at hc1; omega
    subst hge
    have ha := full_append box day
    have hk := full_check box day 1024 (by decide) (by decide)
    have hm := full_more (fullL box day 1024 ++ [fullM box day 1024]) (by rw [List.length_append, fullL_len]; rfl)
    have s12a := s12 (fullL box day 1024) (fullM box day 1024)
    have s15a := s15 (fullL box day 1024)
    have s15b := s15 (fullL box day 1024 ++ [fullM box day 1024])
    rw [hm] at s15b
    by_cases h : okId box = true ∧ okDay day = true
    · rw [if_pos h] at ha hk
      rw [ha] at s12a
      rw [hk] at s15a
      refine good_run 2 (obs := []) (by kernel_rfl) trivial ?_
      refine good_leaveJ (by kernel_rfl) ?_
      refine good_run 3 (obs := []) (by kernel_rfl) trivial ?_
      refine good_part 5 ((2 : Nat)) ((6 : Nat)) ((1024 : Nat)) (fun i => Move.cells (List.getD (fullL box day (1024 : Nat)) i default)) (by kernel_rfl) ?_
      refine good_run 12 (obs := [(0 : Nat) + (2 : Nat) ≤ (2 : Nat), (0 : Nat) + (2 : Nat) ≤ (2 : Nat), (6 : Nat) = (6 : Nat) ∧ (0 : Nat) + (6 : Nat) ≤ (6 : Nat)]) (by kernel_rfl) (by (first | omega | assumption | exact ⟨rfl, trivial⟩ | exact ⟨rfl, rfl, trivial⟩ | exact ⟨rfl, rfl, rfl, rfl, rfl, trivial⟩ | simp only [AllP, inK_iff, roomOK_iff, decide_eq_true_eq, Bool.and_eq_true, Bool.or_eq_true, Bool.not_eq_true', decide_eq_false_iff_not, and_true, true_and]; (first | omega | (and_intros <;> intros <;> (try and_intros) <;> first | omega | assumption | exact trivial)))) ?_
      refine good_call (c := True) (by kernel_rfl) (fun _ => SVles.refl _) (fun _ => SpecOwn.spec (s13 ((1024 : Nat)) (fun i => Move.cells (List.getD (fullL box day (1024 : Nat)) i default)) (by (first | omega | assumption | exact ⟨rfl, trivial⟩ | exact ⟨rfl, rfl, trivial⟩ | exact ⟨rfl, rfl, rfl, rfl, rfl, trivial⟩ | simp only [AllP, inK_iff, roomOK_iff, decide_eq_true_eq, Bool.and_eq_true, Bool.or_eq_true, Bool.not_eq_true', decide_eq_false_iff_not, and_true, true_and]; (first | omega | (and_intros <;> intros <;> (try and_intros) <;> first | omega | assumption | exact trivial)))))) (by kernel_rfl) ?_
      refine good_run 1 (obs := [True → (0 : Nat) + (6 : Nat) ≤ (6 : Nat)]) (by kernel_rfl) (by (first | omega | assumption | exact ⟨rfl, trivial⟩ | exact ⟨rfl, rfl, trivial⟩ | exact ⟨rfl, rfl, rfl, rfl, rfl, trivial⟩ | simp only [AllP, inK_iff, roomOK_iff, decide_eq_true_eq, Bool.and_eq_true, Bool.or_eq_true, Bool.not_eq_true', decide_eq_false_iff_not, and_true, true_and]; (first | omega | (and_intros <;> intros <;> (try and_intros) <;> first | omega | assumption | exact trivial)))) ?_
      refine good_call (c := True) (by kernel_rfl) (fun _ => SVles.refl _) (fun _ => s12a) (by kernel_rfl) ?_
      refine good_run 10 (obs := []) (by kernel_rfl) trivial ?_
      refine good_own (c := True) (by kernel_rfl) (by kernel_rfl) (SVles.refl _) (s13 ((1024 : Nat)) (fun i => Move.cells (List.getD (fullL box day (1024 : Nat)) i default)) (by (first | omega | assumption | exact ⟨rfl, trivial⟩ | exact ⟨rfl, rfl, trivial⟩ | exact ⟨rfl, rfl, rfl, rfl, rfl, trivial⟩ | simp only [AllP, inK_iff, roomOK_iff, decide_eq_true_eq, Bool.and_eq_true, Bool.or_eq_true, Bool.not_eq_true', decide_eq_false_iff_not, and_true, true_and]; (first | omega | (and_intros <;> intros <;> (try and_intros) <;> first | omega | assumption | exact trivial))))) ?_
      refine good_call (c := True) (by kernel_rfl) (fun _ => SVles.refl _) (fun _ => s15a) (by kernel_rfl) ?_
      refine good_run 22 (obs := []) (by kernel_rfl) trivial ?_
      refine good_cond (decide ((1 : Int) ≤ box) && decide (box ≤ (1073741824 : Int)) && decide ((0 : Int) ≤ day) && decide (day ≤ (1048575 : Int))) (by kernel_rfl) (fun hc2 => ?_) (fun hc2 => ?_)
      · refine good_run 37 (obs := [decide ((0 : Int) = (0 : Int)) = true, decide ((0 : Int) = (0 : Int)) = true, decide ((0 : Int) = (0 : Int)) = true, (decide ((0 : Int) = (0 : Int)) && decide ((0 : Int) = (0 : Int))) = true, (decide ((0 : Int) = (0 : Int)) && decide ((0 : Int) = (0 : Int))) = true]) (by kernel_rfl) (by (first | omega | assumption | exact ⟨rfl, trivial⟩ | exact ⟨rfl, rfl, trivial⟩ | exact ⟨rfl, rfl, rfl, rfl, rfl, trivial⟩ | simp only [AllP, inK_iff, roomOK_iff, decide_eq_true_eq, Bool.and_eq_true, Bool.or_eq_true, Bool.not_eq_true', decide_eq_false_iff_not, and_true, true_and]; (first | omega | (and_intros <;> intros <;> (try and_intros) <;> first | omega | assumption | exact trivial)))) ?_
        refine good_pick [12, 14] (by kernel_rfl) ⟨?_, ?_, trivial⟩
        refine good_run 4 (obs := [(decide ((0 : Int) = (0 : Int)) && decide ((0 : Int) = (0 : Int)) && decide ((12 : Int) = (12 : Int))) = true]) (by kernel_rfl) (by (first | omega | assumption | exact ⟨rfl, trivial⟩ | exact ⟨rfl, rfl, trivial⟩ | exact ⟨rfl, rfl, rfl, rfl, rfl, trivial⟩ | simp only [AllP, inK_iff, roomOK_iff, decide_eq_true_eq, Bool.and_eq_true, Bool.or_eq_true, Bool.not_eq_true', decide_eq_false_iff_not, and_true, true_and]; (first | omega | (and_intros <;> intros <;> (try and_intros) <;> first | omega | assumption | exact trivial)))) ?_
        refine good_pick [13, 14] (by kernel_rfl) ⟨?_, ?_, trivial⟩
        refine good_run 1 (obs := [(decide ((0 : Int) = (0 : Int)) && decide ((0 : Int) = (0 : Int)) && decide ((12 : Int) = (12 : Int))) = true]) (by kernel_rfl) (by (first | omega | assumption | exact ⟨rfl, trivial⟩ | exact ⟨rfl, rfl, trivial⟩ | exact ⟨rfl, rfl, rfl, rfl, rfl, trivial⟩ | simp only [AllP, inK_iff, roomOK_iff, decide_eq_true_eq, Bool.and_eq_true, Bool.or_eq_true, Bool.not_eq_true', decide_eq_false_iff_not, and_true, true_and]; (first | omega | (and_intros <;> intros <;> (try and_intros) <;> first | omega | assumption | exact trivial)))) ?_
        refine good_own (c := True) (by kernel_rfl) (by kernel_rfl) (SVles.refl _) (s13 ((1024 : Nat)) (fun i => Move.cells (List.getD (fullL box day (1024 : Nat)) i default)) (by (first | omega | assumption | exact ⟨rfl, trivial⟩ | exact ⟨rfl, rfl, trivial⟩ | exact ⟨rfl, rfl, rfl, rfl, rfl, trivial⟩ | simp only [AllP, inK_iff, roomOK_iff, decide_eq_true_eq, Bool.and_eq_true, Bool.or_eq_true, Bool.not_eq_true', decide_eq_false_iff_not, and_true, true_and]; (first | omega | (and_intros <;> intros <;> (try and_intros) <;> first | omega | assumption | exact trivial))))) ?_
        refine good_run 12 (obs := [(decide ((0 : Int) = (0 : Int)) && decide ((0 : Int) = (0 : Int)) && decide ((12 : Int) = (12 : Int))) = true, (0 : Nat) + (6 : Nat) ≤ (6 : Nat), (decide ((0 : Int) = (0 : Int)) && decide ((0 : Int) = (0 : Int)) && decide ((12 : Int) = (12 : Int))) = true, (decide ((0 : Int) = (0 : Int)) && decide ((0 : Int) = (0 : Int)) && decide ((12 : Int) = (12 : Int))) = true, (26 : Nat) = (26 : Nat) ∧ (6 : Nat) = (6 : Nat) ∧ (6 : Nat) = (6 : Nat) ∧ roomOK ((1024 : Nat) + (1 : Nat)) (48 : Nat), (decide ((0 : Int) = (0 : Int)) && decide ((0 : Int) = (0 : Int)) && decide ((12 : Int) = (12 : Int))) = true]) (by kernel_rfl) (by (first | omega | assumption | exact ⟨rfl, trivial⟩ | exact ⟨rfl, rfl, trivial⟩ | exact ⟨rfl, rfl, rfl, rfl, rfl, trivial⟩ | simp only [AllP, inK_iff, roomOK_iff, decide_eq_true_eq, Bool.and_eq_true, Bool.or_eq_true, Bool.not_eq_true', decide_eq_false_iff_not, and_true, true_and]; (first | omega | (and_intros <;> intros <;> (try and_intros) <;> first | omega | assumption | exact trivial)))) ?_
        rotate_left 1
        refine good_run 4 (obs := [(decide ((0 : Int) = (0 : Int)) && decide ((0 : Int) = (0 : Int)) && decide ((12 : Int) = (12 : Int))) = true, (0 : Nat) + (6 : Nat) ≤ (6 : Nat)]) (by kernel_rfl) (by (first | omega | assumption | exact ⟨rfl, trivial⟩ | exact ⟨rfl, rfl, trivial⟩ | exact ⟨rfl, rfl, rfl, rfl, rfl, trivial⟩ | simp only [AllP, inK_iff, roomOK_iff, decide_eq_true_eq, Bool.and_eq_true, Bool.or_eq_true, Bool.not_eq_true', decide_eq_false_iff_not, and_true, true_and]; (first | omega | (and_intros <;> intros <;> (try and_intros) <;> first | omega | assumption | exact trivial)))) ?_
        refine good_pick [13, 15] (by kernel_rfl) ⟨?_, ?_, trivial⟩
        refine good_run 1 (obs := [(decide ((0 : Int) = (0 : Int)) && decide ((0 : Int) = (0 : Int)) && decide ((12 : Int) = (12 : Int))) = true]) (by kernel_rfl) (by (first | omega | assumption | exact ⟨rfl, trivial⟩ | exact ⟨rfl, rfl, trivial⟩ | exact ⟨rfl, rfl, rfl, rfl, rfl, trivial⟩ | simp only [AllP, inK_iff, roomOK_iff, decide_eq_true_eq, Bool.and_eq_true, Bool.or_eq_true, Bool.not_eq_true', decide_eq_false_iff_not, and_true, true_and]; (first | omega | (and_intros <;> intros <;> (try and_intros) <;> first | omega | assumption | exact trivial)))) ?_
        refine good_own (c := True) (by kernel_rfl) (by kernel_rfl) (SVles.refl _) (s13 ((1024 : Nat)) (fun i => Move.cells (List.getD (fullL box day (1024 : Nat)) i default)) (by (first | omega | assumption | exact ⟨rfl, trivial⟩ | exact ⟨rfl, rfl, trivial⟩ | exact ⟨rfl, rfl, rfl, rfl, rfl, trivial⟩ | simp only [AllP, inK_iff, roomOK_iff, decide_eq_true_eq, Bool.and_eq_true, Bool.or_eq_true, Bool.not_eq_true', decide_eq_false_iff_not, and_true, true_and]; (first | omega | (and_intros <;> intros <;> (try and_intros) <;> first | omega | assumption | exact trivial))))) ?_
        refine good_run 9 (obs := [(decide ((0 : Int) = (0 : Int)) && decide ((0 : Int) = (0 : Int)) && decide ((12 : Int) = (12 : Int))) = true, (decide ((0 : Int) = (0 : Int)) && decide ((0 : Int) = (0 : Int)) && decide ((12 : Int) = (12 : Int))) = true, (26 : Nat) = (26 : Nat) ∧ (6 : Nat) = (6 : Nat) ∧ (6 : Nat) = (6 : Nat) ∧ roomOK ((1024 : Nat) + (1 : Nat)) (48 : Nat), (decide ((0 : Int) = (0 : Int)) && decide ((0 : Int) = (0 : Int)) && decide ((12 : Int) = (12 : Int))) = true]) (by kernel_rfl) (by (first | omega | assumption | exact ⟨rfl, trivial⟩ | exact ⟨rfl, rfl, trivial⟩ | exact ⟨rfl, rfl, rfl, rfl, rfl, trivial⟩ | simp only [AllP, inK_iff, roomOK_iff, decide_eq_true_eq, Bool.and_eq_true, Bool.or_eq_true, Bool.not_eq_true', decide_eq_false_iff_not, and_true, true_and]; (first | omega | (and_intros <;> intros <;> (try and_intros) <;> first | omega | assumption | exact trivial)))) ?_
        rotate_left 1
        refine good_run 5 (obs := [(decide ((0 : Int) = (0 : Int)) && decide ((0 : Int) = (0 : Int)) && decide ((12 : Int) = (12 : Int))) = true, (decide ((0 : Int) = (0 : Int)) && decide ((0 : Int) = (0 : Int)) && decide ((12 : Int) = (12 : Int))) = true]) (by kernel_rfl) (by (first | omega | assumption | exact ⟨rfl, trivial⟩ | exact ⟨rfl, rfl, trivial⟩ | exact ⟨rfl, rfl, rfl, rfl, rfl, trivial⟩ | simp only [AllP, inK_iff, roomOK_iff, decide_eq_true_eq, Bool.and_eq_true, Bool.or_eq_true, Bool.not_eq_true', decide_eq_false_iff_not, and_true, true_and]; (first | omega | (and_intros <;> intros <;> (try and_intros) <;> first | omega | assumption | exact trivial)))) ?_
        refine good_own (c := True) (by kernel_rfl) (by kernel_rfl) (SVles.refl _) (s13 ((1024 : Nat)) (fun i => Move.cells (List.getD (fullL box day (1024 : Nat)) i default)) (by (first | omega | assumption | exact ⟨rfl, trivial⟩ | exact ⟨rfl, rfl, trivial⟩ | exact ⟨rfl, rfl, rfl, rfl, rfl, trivial⟩ | simp only [AllP, inK_iff, roomOK_iff, decide_eq_true_eq, Bool.and_eq_true, Bool.or_eq_true, Bool.not_eq_true', decide_eq_false_iff_not, and_true, true_and]; (first | omega | (and_intros <;> intros <;> (try and_intros) <;> first | omega | assumption | exact trivial))))) ?_
        refine good_run 5 (obs := [(decide ((0 : Int) = (0 : Int)) && decide ((0 : Int) = (0 : Int)) && decide ((12 : Int) = (12 : Int))) = true, (26 : Nat) = (26 : Nat) ∧ (6 : Nat) = (6 : Nat) ∧ (6 : Nat) = (6 : Nat) ∧ roomOK ((1024 : Nat) + (1 : Nat)) (48 : Nat), (decide ((0 : Int) = (0 : Int)) && decide ((0 : Int) = (0 : Int)) && decide ((12 : Int) = (12 : Int))) = true]) (by kernel_rfl) (by (first | omega | assumption | exact ⟨rfl, trivial⟩ | exact ⟨rfl, rfl, trivial⟩ | exact ⟨rfl, rfl, rfl, rfl, rfl, trivial⟩ | simp only [AllP, inK_iff, roomOK_iff, decide_eq_true_eq, Bool.and_eq_true, Bool.or_eq_true, Bool.not_eq_true', decide_eq_false_iff_not, and_true, true_and]; (first | omega | (and_intros <;> intros <;> (try and_intros) <;> first | omega | assumption | exact trivial)))) ?_
        rotate_left 1
        refine good_run 4 (obs := [(decide ((0 : Int) = (0 : Int)) && decide ((0 : Int) = (0 : Int)) && decide ((12 : Int) = (12 : Int))) = true, (0 : Nat) + (6 : Nat) ≤ (6 : Nat)]) (by kernel_rfl) (by (first | omega | assumption | exact ⟨rfl, trivial⟩ | exact ⟨rfl, rfl, trivial⟩ | exact ⟨rfl, rfl, rfl, rfl, rfl, trivial⟩ | simp only [AllP, inK_iff, roomOK_iff, decide_eq_true_eq, Bool.and_eq_true, Bool.or_eq_true, Bool.not_eq_true', decide_eq_false_iff_not, and_true, true_and]; (first | omega | (and_intros <;> intros <;> (try and_intros) <;> first | omega | assumption | exact trivial)))) ?_
        refine good_pick [12, 15] (by kernel_rfl) ⟨?_, ?_, trivial⟩
        refine good_run 4 (obs := [(decide ((0 : Int) = (0 : Int)) && decide ((0 : Int) = (0 : Int)) && decide ((12 : Int) = (12 : Int))) = true]) (by kernel_rfl) (by (first | omega | assumption | exact ⟨rfl, trivial⟩ | exact ⟨rfl, rfl, trivial⟩ | exact ⟨rfl, rfl, rfl, rfl, rfl, trivial⟩ | simp only [AllP, inK_iff, roomOK_iff, decide_eq_true_eq, Bool.and_eq_true, Bool.or_eq_true, Bool.not_eq_true', decide_eq_false_iff_not, and_true, true_and]; (first | omega | (and_intros <;> intros <;> (try and_intros) <;> first | omega | assumption | exact trivial)))) ?_
        refine good_pick [13, 15] (by kernel_rfl) ⟨?_, ?_, trivial⟩
        refine good_run 1 (obs := [(decide ((0 : Int) = (0 : Int)) && decide ((0 : Int) = (0 : Int)) && decide ((12 : Int) = (12 : Int))) = true]) (by kernel_rfl) (by (first | omega | assumption | exact ⟨rfl, trivial⟩ | exact ⟨rfl, rfl, trivial⟩ | exact ⟨rfl, rfl, rfl, rfl, rfl, trivial⟩ | simp only [AllP, inK_iff, roomOK_iff, decide_eq_true_eq, Bool.and_eq_true, Bool.or_eq_true, Bool.not_eq_true', decide_eq_false_iff_not, and_true, true_and]; (first | omega | (and_intros <;> intros <;> (try and_intros) <;> first | omega | assumption | exact trivial)))) ?_
        refine good_own (c := True) (by kernel_rfl) (by kernel_rfl) (SVles.refl _) (s13 ((1024 : Nat)) (fun i => Move.cells (List.getD (fullL box day (1024 : Nat)) i default)) (by (first | omega | assumption | exact ⟨rfl, trivial⟩ | exact ⟨rfl, rfl, trivial⟩ | exact ⟨rfl, rfl, rfl, rfl, rfl, trivial⟩ | simp only [AllP, inK_iff, roomOK_iff, decide_eq_true_eq, Bool.and_eq_true, Bool.or_eq_true, Bool.not_eq_true', decide_eq_false_iff_not, and_true, true_and]; (first | omega | (and_intros <;> intros <;> (try and_intros) <;> first | omega | assumption | exact trivial))))) ?_
        refine good_run 9 (obs := [(decide ((0 : Int) = (0 : Int)) && decide ((0 : Int) = (0 : Int)) && decide ((12 : Int) = (12 : Int))) = true, (decide ((0 : Int) = (0 : Int)) && decide ((0 : Int) = (0 : Int)) && decide ((12 : Int) = (12 : Int))) = true, (26 : Nat) = (26 : Nat) ∧ (6 : Nat) = (6 : Nat) ∧ (6 : Nat) = (6 : Nat) ∧ roomOK ((1024 : Nat) + (1 : Nat)) (48 : Nat), (decide ((0 : Int) = (0 : Int)) && decide ((0 : Int) = (0 : Int)) && decide ((12 : Int) = (12 : Int))) = true]) (by kernel_rfl) (by (first | omega | assumption | exact ⟨rfl, trivial⟩ | exact ⟨rfl, rfl, trivial⟩ | exact ⟨rfl, rfl, rfl, rfl, rfl, trivial⟩ | simp only [AllP, inK_iff, roomOK_iff, decide_eq_true_eq, Bool.and_eq_true, Bool.or_eq_true, Bool.not_eq_true', decide_eq_false_iff_not, and_true, true_and]; (first | omega | (and_intros <;> intros <;> (try and_intros) <;> first | omega | assumption | exact trivial)))) ?_
        rotate_left 1
        refine good_run 5 (obs := [(decide ((0 : Int) = (0 : Int)) && decide ((0 : Int) = (0 : Int)) && decide ((12 : Int) = (12 : Int))) = true, (decide ((0 : Int) = (0 : Int)) && decide ((0 : Int) = (0 : Int)) && decide ((12 : Int) = (12 : Int))) = true]) (by kernel_rfl) (by (first | omega | assumption | exact ⟨rfl, trivial⟩ | exact ⟨rfl, rfl, trivial⟩ | exact ⟨rfl, rfl, rfl, rfl, rfl, trivial⟩ | simp only [AllP, inK_iff, roomOK_iff, decide_eq_true_eq, Bool.and_eq_true, Bool.or_eq_true, Bool.not_eq_true', decide_eq_false_iff_not, and_true, true_and]; (first | omega | (and_intros <;> intros <;> (try and_intros) <;> first | omega | assumption | exact trivial)))) ?_
        refine good_own (c := True) (by kernel_rfl) (by kernel_rfl) (SVles.refl _) (s13 ((1024 : Nat)) (fun i => Move.cells (List.getD (fullL box day (1024 : Nat)) i default)) (by (first | omega | assumption | exact ⟨rfl, trivial⟩ | exact ⟨rfl, rfl, trivial⟩ | exact ⟨rfl, rfl, rfl, rfl, rfl, trivial⟩ | simp only [AllP, inK_iff, roomOK_iff, decide_eq_true_eq, Bool.and_eq_true, Bool.or_eq_true, Bool.not_eq_true', decide_eq_false_iff_not, and_true, true_and]; (first | omega | (and_intros <;> intros <;> (try and_intros) <;> first | omega | assumption | exact trivial))))) ?_
        refine good_run 5 (obs := [(decide ((0 : Int) = (0 : Int)) && decide ((0 : Int) = (0 : Int)) && decide ((12 : Int) = (12 : Int))) = true, (26 : Nat) = (26 : Nat) ∧ (6 : Nat) = (6 : Nat) ∧ (6 : Nat) = (6 : Nat) ∧ roomOK ((1024 : Nat) + (1 : Nat)) (48 : Nat), (decide ((0 : Int) = (0 : Int)) && decide ((0 : Int) = (0 : Int)) && decide ((12 : Int) = (12 : Int))) = true]) (by kernel_rfl) (by (first | omega | assumption | exact ⟨rfl, trivial⟩ | exact ⟨rfl, rfl, trivial⟩ | exact ⟨rfl, rfl, rfl, rfl, rfl, trivial⟩ | simp only [AllP, inK_iff, roomOK_iff, decide_eq_true_eq, Bool.and_eq_true, Bool.or_eq_true, Bool.not_eq_true', decide_eq_false_iff_not, and_true, true_and]; (first | omega | (and_intros <;> intros <;> (try and_intros) <;> first | omega | assumption | exact trivial)))) ?_
        rotate_left 1
        refine good_run 8 (obs := [(decide ((0 : Int) = (0 : Int)) && decide ((0 : Int) = (0 : Int)) && decide ((12 : Int) = (12 : Int))) = true, (decide ((0 : Int) = (0 : Int)) && decide ((0 : Int) = (0 : Int)) && decide ((12 : Int) = (12 : Int))) = true, (decide ((0 : Int) = (0 : Int)) && decide ((0 : Int) = (0 : Int)) && decide ((12 : Int) = (12 : Int))) = true]) (by kernel_rfl) ?_ ?_
        rotate_left 2
        · refine good_call (args := [SV.lst (6 : Nat) (1025 : Nat) (joinGet (1024 : Nat) (fun i => Move.cells (List.getD (fullL box day (1024 : Nat)) i default)) (cutRows (6 : Nat) [SV.int IntKind.i64 day, SV.int IntKind.i64 box, SV.int IntKind.i64 (plK (1024 : Nat)).Kind, SV.int IntKind.i64 (plK (1024 : Nat)).Of, SV.int IntKind.i64 (plK (1025 : Nat)).Kind, SV.int IntKind.i64 (plK (1025 : Nat)).Of]))]) (c := True) (by kernel_rfl) (fun _ => show SVles _ [moves (fullL box day 1024 ++ [fullM box day 1024])] from ⟨full_le box day, trivial⟩) (fun _ => s15b) (by kernel_rfl) ?_
          refine good_run 14 (obs := [(decide ((0 : Int) = (0 : Int)) && decide ((0 : Int) = (0 : Int)) && decide ((12 : Int) = (12 : Int))) = true]) (by kernel_rfl) (by (first | omega | assumption | exact ⟨rfl, trivial⟩ | exact ⟨rfl, rfl, trivial⟩ | exact ⟨rfl, rfl, rfl, rfl, rfl, trivial⟩ | simp only [AllP, inK_iff, roomOK_iff, decide_eq_true_eq, Bool.and_eq_true, Bool.or_eq_true, Bool.not_eq_true', decide_eq_false_iff_not, and_true, true_and]; (first | omega | (and_intros <;> intros <;> (try and_intros) <;> first | omega | assumption | exact trivial)))) ?_
          refine good_fin [(decide ((0 : Int) = (0 : Int)) && decide ((0 : Int) = (0 : Int)) && decide ((12 : Int) = (12 : Int)) && decide ((8 : Int) = (8 : Int))) = true] (by kernel_rfl) ⟨(by rfl), trivial⟩
        · refine good_call (args := [SV.lst (6 : Nat) (1025 : Nat) (joinGet (1024 : Nat) (fun i => Move.cells (List.getD (fullL box day (1024 : Nat)) i default)) (cutRows (6 : Nat) [SV.int IntKind.i64 day, SV.int IntKind.i64 box, SV.int IntKind.i64 (plK (1024 : Nat)).Kind, SV.int IntKind.i64 (plK (1024 : Nat)).Of, SV.int IntKind.i64 (plK (1025 : Nat)).Kind, SV.int IntKind.i64 (plK (1025 : Nat)).Of]))]) (c := True) (by kernel_rfl) (fun _ => show SVles _ [moves (fullL box day 1024 ++ [fullM box day 1024])] from ⟨full_le box day, trivial⟩) (fun _ => s15b) (by kernel_rfl) ?_
          refine good_run 14 (obs := [(decide ((0 : Int) = (0 : Int)) && decide ((0 : Int) = (0 : Int)) && decide ((12 : Int) = (12 : Int))) = true]) (by kernel_rfl) (by (first | omega | assumption | exact ⟨rfl, trivial⟩ | exact ⟨rfl, rfl, trivial⟩ | exact ⟨rfl, rfl, rfl, rfl, rfl, trivial⟩ | simp only [AllP, inK_iff, roomOK_iff, decide_eq_true_eq, Bool.and_eq_true, Bool.or_eq_true, Bool.not_eq_true', decide_eq_false_iff_not, and_true, true_and]; (first | omega | (and_intros <;> intros <;> (try and_intros) <;> first | omega | assumption | exact trivial)))) ?_
          refine good_fin [(decide ((0 : Int) = (0 : Int)) && decide ((0 : Int) = (0 : Int)) && decide ((12 : Int) = (12 : Int)) && decide ((8 : Int) = (8 : Int))) = true] (by kernel_rfl) ⟨(by rfl), trivial⟩
        · refine good_call (args := [SV.lst (6 : Nat) (1025 : Nat) (joinGet (1024 : Nat) (fun i => Move.cells (List.getD (fullL box day (1024 : Nat)) i default)) (cutRows (6 : Nat) [SV.int IntKind.i64 day, SV.int IntKind.i64 box, SV.int IntKind.i64 (plK (1024 : Nat)).Kind, SV.int IntKind.i64 (plK (1024 : Nat)).Of, SV.int IntKind.i64 (plK (1025 : Nat)).Kind, SV.int IntKind.i64 (plK (1025 : Nat)).Of]))]) (c := True) (by kernel_rfl) (fun _ => show SVles _ [moves (fullL box day 1024 ++ [fullM box day 1024])] from ⟨full_le box day, trivial⟩) (fun _ => s15b) (by kernel_rfl) ?_
          refine good_run 14 (obs := [(decide ((0 : Int) = (0 : Int)) && decide ((0 : Int) = (0 : Int)) && decide ((12 : Int) = (12 : Int))) = true]) (by kernel_rfl) (by (first | omega | assumption | exact ⟨rfl, trivial⟩ | exact ⟨rfl, rfl, trivial⟩ | exact ⟨rfl, rfl, rfl, rfl, rfl, trivial⟩ | simp only [AllP, inK_iff, roomOK_iff, decide_eq_true_eq, Bool.and_eq_true, Bool.or_eq_true, Bool.not_eq_true', decide_eq_false_iff_not, and_true, true_and]; (first | omega | (and_intros <;> intros <;> (try and_intros) <;> first | omega | assumption | exact trivial)))) ?_
          refine good_fin [(decide ((0 : Int) = (0 : Int)) && decide ((0 : Int) = (0 : Int)) && decide ((12 : Int) = (12 : Int)) && decide ((8 : Int) = (8 : Int))) = true] (by kernel_rfl) ⟨(by rfl), trivial⟩
        · refine good_call (args := [SV.lst (6 : Nat) (1025 : Nat) (joinGet (1024 : Nat) (fun i => Move.cells (List.getD (fullL box day (1024 : Nat)) i default)) (cutRows (6 : Nat) [SV.int IntKind.i64 day, SV.int IntKind.i64 box, SV.int IntKind.i64 (plK (1024 : Nat)).Kind, SV.int IntKind.i64 (plK (1024 : Nat)).Of, SV.int IntKind.i64 (plK (1025 : Nat)).Kind, SV.int IntKind.i64 (plK (1025 : Nat)).Of]))]) (c := True) (by kernel_rfl) (fun _ => show SVles _ [moves (fullL box day 1024 ++ [fullM box day 1024])] from ⟨full_le box day, trivial⟩) (fun _ => s15b) (by kernel_rfl) ?_
          refine good_run 14 (obs := [(decide ((0 : Int) = (0 : Int)) && decide ((0 : Int) = (0 : Int)) && decide ((12 : Int) = (12 : Int))) = true]) (by kernel_rfl) (by (first | omega | assumption | exact ⟨rfl, trivial⟩ | exact ⟨rfl, rfl, trivial⟩ | exact ⟨rfl, rfl, rfl, rfl, rfl, trivial⟩ | simp only [AllP, inK_iff, roomOK_iff, decide_eq_true_eq, Bool.and_eq_true, Bool.or_eq_true, Bool.not_eq_true', decide_eq_false_iff_not, and_true, true_and]; (first | omega | (and_intros <;> intros <;> (try and_intros) <;> first | omega | assumption | exact trivial)))) ?_
          refine good_fin [(decide ((0 : Int) = (0 : Int)) && decide ((0 : Int) = (0 : Int)) && decide ((12 : Int) = (12 : Int)) && decide ((8 : Int) = (8 : Int))) = true] (by kernel_rfl) ⟨(by rfl), trivial⟩
        · refine good_call (args := [SV.lst (6 : Nat) (1025 : Nat) (joinGet (1024 : Nat) (fun i => Move.cells (List.getD (fullL box day (1024 : Nat)) i default)) (cutRows (6 : Nat) [SV.int IntKind.i64 day, SV.int IntKind.i64 box, SV.int IntKind.i64 (plK (1024 : Nat)).Kind, SV.int IntKind.i64 (plK (1024 : Nat)).Of, SV.int IntKind.i64 (plK (1025 : Nat)).Kind, SV.int IntKind.i64 (plK (1025 : Nat)).Of]))]) (c := True) (by kernel_rfl) (fun _ => show SVles _ [moves (fullL box day 1024 ++ [fullM box day 1024])] from ⟨full_le box day, trivial⟩) (fun _ => s15b) (by kernel_rfl) ?_
          refine good_run 14 (obs := [(decide ((0 : Int) = (0 : Int)) && decide ((0 : Int) = (0 : Int)) && decide ((12 : Int) = (12 : Int))) = true]) (by kernel_rfl) (by (first | omega | assumption | exact ⟨rfl, trivial⟩ | exact ⟨rfl, rfl, trivial⟩ | exact ⟨rfl, rfl, rfl, rfl, rfl, trivial⟩ | simp only [AllP, inK_iff, roomOK_iff, decide_eq_true_eq, Bool.and_eq_true, Bool.or_eq_true, Bool.not_eq_true', decide_eq_false_iff_not, and_true, true_and]; (first | omega | (and_intros <;> intros <;> (try and_intros) <;> first | omega | assumption | exact trivial)))) ?_
          refine good_fin [(decide ((0 : Int) = (0 : Int)) && decide ((0 : Int) = (0 : Int)) && decide ((12 : Int) = (12 : Int)) && decide ((8 : Int) = (8 : Int))) = true] (by kernel_rfl) ⟨(by rfl), trivial⟩
        · exact ⟨rfl, rfl, rfl, trivial⟩
        · refine good_own (c := True) (by kernel_rfl) (by kernel_rfl) (SVles.refl _) (s13 ((1024 : Nat)) (fun i => Move.cells (List.getD (fullL box day (1024 : Nat)) i default)) (by (first | omega | assumption | exact ⟨rfl, trivial⟩ | exact ⟨rfl, rfl, trivial⟩ | exact ⟨rfl, rfl, rfl, rfl, rfl, trivial⟩ | simp only [AllP, inK_iff, roomOK_iff, decide_eq_true_eq, Bool.and_eq_true, Bool.or_eq_true, Bool.not_eq_true', decide_eq_false_iff_not, and_true, true_and]; (first | omega | (and_intros <;> intros <;> (try and_intros) <;> first | omega | assumption | exact trivial))))) ?_
          refine good_run 5 (obs := [(decide ((0 : Int) = (0 : Int)) && decide ((0 : Int) = (0 : Int)) && decide ((12 : Int) = (12 : Int))) = true, (26 : Nat) = (26 : Nat) ∧ (6 : Nat) = (6 : Nat) ∧ (6 : Nat) = (6 : Nat) ∧ roomOK ((1024 : Nat) + (1 : Nat)) (48 : Nat), (decide ((0 : Int) = (0 : Int)) && decide ((0 : Int) = (0 : Int)) && decide ((12 : Int) = (12 : Int))) = true]) (by kernel_rfl) (by (first | omega | assumption | exact ⟨rfl, trivial⟩ | exact ⟨rfl, rfl, trivial⟩ | exact ⟨rfl, rfl, rfl, rfl, rfl, trivial⟩ | simp only [AllP, inK_iff, roomOK_iff, decide_eq_true_eq, Bool.and_eq_true, Bool.or_eq_true, Bool.not_eq_true', decide_eq_false_iff_not, and_true, true_and]; (first | omega | (and_intros <;> intros <;> (try and_intros) <;> first | omega | assumption | exact trivial)))) ?_
          refine good_call (args := [SV.lst (6 : Nat) (1025 : Nat) (joinGet (1024 : Nat) (fun i => Move.cells (List.getD (fullL box day (1024 : Nat)) i default)) (cutRows (6 : Nat) [SV.int IntKind.i64 day, SV.int IntKind.i64 box, SV.int IntKind.i64 (plK (1024 : Nat)).Kind, SV.int IntKind.i64 (plK (1024 : Nat)).Of, SV.int IntKind.i64 (plK (1025 : Nat)).Kind, SV.int IntKind.i64 (plK (1025 : Nat)).Of]))]) (c := True) (by kernel_rfl) (fun _ => show SVles _ [moves (fullL box day 1024 ++ [fullM box day 1024])] from ⟨full_le box day, trivial⟩) (fun _ => s15b) (by kernel_rfl) ?_
          refine good_run 14 (obs := [(decide ((0 : Int) = (0 : Int)) && decide ((0 : Int) = (0 : Int)) && decide ((12 : Int) = (12 : Int))) = true]) (by kernel_rfl) (by (first | omega | assumption | exact ⟨rfl, trivial⟩ | exact ⟨rfl, rfl, trivial⟩ | exact ⟨rfl, rfl, rfl, rfl, rfl, trivial⟩ | simp only [AllP, inK_iff, roomOK_iff, decide_eq_true_eq, Bool.and_eq_true, Bool.or_eq_true, Bool.not_eq_true', decide_eq_false_iff_not, and_true, true_and]; (first | omega | (and_intros <;> intros <;> (try and_intros) <;> first | omega | assumption | exact trivial)))) ?_
          refine good_fin [(decide ((0 : Int) = (0 : Int)) && decide ((0 : Int) = (0 : Int)) && decide ((12 : Int) = (12 : Int)) && decide ((8 : Int) = (8 : Int))) = true] (by kernel_rfl) ⟨(by rfl), trivial⟩
      · exfalso
        simp only [okId, okDay, Bool.and_eq_true, decide_eq_true_eq] at h
        simp only [Bool.and_eq_false_iff, decide_eq_false_iff_not] at hc2
        omega
    · rw [if_neg h] at ha hk
      rw [ha] at s12a
      rw [hk] at s15a
      refine good_run 2 (obs := []) (by kernel_rfl) trivial ?_
      refine good_leaveJ (by kernel_rfl) ?_
      refine good_run 3 (obs := []) (by kernel_rfl) trivial ?_
      refine good_part 5 ((2 : Nat)) ((6 : Nat)) ((1024 : Nat)) (fun i => Move.cells (List.getD (fullL box day (1024 : Nat)) i default)) (by kernel_rfl) ?_
      refine good_run 12 (obs := [(0 : Nat) + (2 : Nat) ≤ (2 : Nat), (0 : Nat) + (2 : Nat) ≤ (2 : Nat), (6 : Nat) = (6 : Nat) ∧ (0 : Nat) + (6 : Nat) ≤ (6 : Nat)]) (by kernel_rfl) (by (first | omega | assumption | exact ⟨rfl, trivial⟩ | exact ⟨rfl, rfl, trivial⟩ | exact ⟨rfl, rfl, rfl, rfl, rfl, trivial⟩ | simp only [AllP, inK_iff, roomOK_iff, decide_eq_true_eq, Bool.and_eq_true, Bool.or_eq_true, Bool.not_eq_true', decide_eq_false_iff_not, and_true, true_and]; (first | omega | (and_intros <;> intros <;> (try and_intros) <;> first | omega | assumption | exact trivial)))) ?_
      refine good_call (c := True) (by kernel_rfl) (fun _ => SVles.refl _) (fun _ => SpecOwn.spec (s13 ((1024 : Nat)) (fun i => Move.cells (List.getD (fullL box day (1024 : Nat)) i default)) (by (first | omega | assumption | exact ⟨rfl, trivial⟩ | exact ⟨rfl, rfl, trivial⟩ | exact ⟨rfl, rfl, rfl, rfl, rfl, trivial⟩ | simp only [AllP, inK_iff, roomOK_iff, decide_eq_true_eq, Bool.and_eq_true, Bool.or_eq_true, Bool.not_eq_true', decide_eq_false_iff_not, and_true, true_and]; (first | omega | (and_intros <;> intros <;> (try and_intros) <;> first | omega | assumption | exact trivial)))))) (by kernel_rfl) ?_
      refine good_run 1 (obs := [True → (0 : Nat) + (6 : Nat) ≤ (6 : Nat)]) (by kernel_rfl) (by (first | omega | assumption | exact ⟨rfl, trivial⟩ | exact ⟨rfl, rfl, trivial⟩ | exact ⟨rfl, rfl, rfl, rfl, rfl, trivial⟩ | simp only [AllP, inK_iff, roomOK_iff, decide_eq_true_eq, Bool.and_eq_true, Bool.or_eq_true, Bool.not_eq_true', decide_eq_false_iff_not, and_true, true_and]; (first | omega | (and_intros <;> intros <;> (try and_intros) <;> first | omega | assumption | exact trivial)))) ?_
      refine good_call (c := True) (by kernel_rfl) (fun _ => SVles.refl _) (fun _ => s12a) (by kernel_rfl) ?_
      refine good_run 10 (obs := []) (by kernel_rfl) trivial ?_
      refine good_own (c := True) (by kernel_rfl) (by kernel_rfl) (SVles.refl _) (s13 ((1024 : Nat)) (fun i => Move.cells (List.getD (fullL box day (1024 : Nat)) i default)) (by (first | omega | assumption | exact ⟨rfl, trivial⟩ | exact ⟨rfl, rfl, trivial⟩ | exact ⟨rfl, rfl, rfl, rfl, rfl, trivial⟩ | simp only [AllP, inK_iff, roomOK_iff, decide_eq_true_eq, Bool.and_eq_true, Bool.or_eq_true, Bool.not_eq_true', decide_eq_false_iff_not, and_true, true_and]; (first | omega | (and_intros <;> intros <;> (try and_intros) <;> first | omega | assumption | exact trivial))))) ?_
      refine good_call (c := True) (by kernel_rfl) (fun _ => SVles.refl _) (fun _ => s15a) (by kernel_rfl) ?_
      refine good_run 22 (obs := []) (by kernel_rfl) trivial ?_
      refine good_cond (decide ((1 : Int) ≤ box) && decide (box ≤ (1073741824 : Int)) && decide ((0 : Int) ≤ day) && decide (day ≤ (1048575 : Int))) (by kernel_rfl) (fun hc2 => ?_) (fun hc2 => ?_)
      · exfalso
        simp only [okId, okDay, Bool.and_eq_true, decide_eq_true_eq] at h hc2
        omega
      · refine good_run 18 (obs := []) (by kernel_rfl) trivial ?_
        refine good_fin [(decide ((2 : Int) = (2 : Int)) && decide ((0 : Int) = (0 : Int)) && decide ((1 : Int) = (1 : Int))) = true] (by kernel_rfl) ⟨(by rfl), trivial⟩
        all_goals skip
end Go.Sx.T
