/- Contracts of functions of the program, each proved by running its code symbolically (QM). -/
import Derived.Test.YtepkgkdbnoiieaaQL
namespace Go.Sx.T
open Go Go.Proofs Go.Sx
set_option maxRecDepth 100000
set_option maxHeartbeats 8000000
set_option linter.unusedVariables false
set_option linter.unusedSimpArgs false
theorem chk_pos {l : List Int} (h : chkL l = 0) : l.length ≤ 256 ∧ l.Nodup ∧ (∀ i, i < l.length → 1 ≤ l.getD i 0 ∧ l.getD i 0 ≤ 1073741824) ∧ ∀ x ∈ l, 1 ≤ x ∧ x ≤ 1073741824 := by
  obtain ⟨h1, h2, h3⟩ := chkL_zero.1 h
  have h4 : ∀ x ∈ l, 1 ≤ x ∧ x ≤ 1073741824 := fun x hx => by
    have := List.any_eq_false.1 h2 x hx
    simp only [tooB, Bool.or_eq_true, decide_eq_true_eq] at this
    omega
  exact ⟨h1, h3, fun i hi => h4 _ (getD_mem _ _ _ hi), h4⟩
def presL (l : List Int) : List Int × Int := if chkL l = 0 then (lis 0 l, 0) else ([], chkL l)
theorem s13 (l : List Int) (hl : l.length ≤ 100000) : Spec Try.prog 13 [ints l] (.tup [ints (presL l).1, .int .i64 (presL l).2]) := by
  refine spec_of_good mixed Try.func13 F13_ok (by kernel_rfl) ?_
  have h20 := s20 l hl
  refine good_run 10 (obs := []) (by kernel_rfl) trivial ?_
  refine good_call (c := True) (by kernel_rfl) (fun _ => SVles.refl _) (fun _ => s20 (l) (by (first | omega | assumption | exact ⟨rfl, trivial⟩ | simp only [AllP, inK_iff, roomOK_iff, decide_eq_true_eq, Bool.and_eq_true, Bool.or_eq_true, Bool.not_eq_true', decide_eq_false_iff_not, and_true, true_and]; (first | omega | (and_intros <;> intros <;> (try and_intros) <;> first | omega | assumption | exact trivial))))) (by kernel_rfl) ?_
  refine good_run 9 (obs := []) (by kernel_rfl) trivial ?_
  refine good_cond (!decide (chkL l = (0 : Int))) (by kernel_rfl) (fun hc1 => ?_) (fun hc1 => ?_)
  · have e : presL l = ([], chkL l) := if_neg (by simpa using hc1)
    rw [e]
    refine good_run 9 (obs := []) (by kernel_rfl) trivial ?_
    refine good_fin [(0 : Nat) = (0 : Nat), chkL l = chkL l] (by kernel_rfl) ⟨rfl, rfl, trivial⟩
  · have hc : chkL l = 0 := by simpa using hc1
    have e : presL l = (lis 0 l, 0) := if_pos hc
    obtain ⟨h1, h2, h3, h4⟩ := chk_pos hc
    have h40 := s40 l h1 h3 h2
    rw [e]
    refine good_run 4 (obs := []) (by kernel_rfl) trivial ?_
    refine good_own (c := True) (by kernel_rfl) (by kernel_rfl) (SVles.refl _) (s40 (l) (by (first | omega | assumption | exact ⟨rfl, trivial⟩ | simp only [AllP, inK_iff, roomOK_iff, decide_eq_true_eq, Bool.and_eq_true, Bool.or_eq_true, Bool.not_eq_true', decide_eq_false_iff_not, and_true, true_and]; (first | omega | (and_intros <;> intros <;> (try and_intros) <;> first | omega | assumption | exact trivial)))) (by (first | omega | assumption | exact ⟨rfl, trivial⟩ | simp only [AllP, inK_iff, roomOK_iff, decide_eq_true_eq, Bool.and_eq_true, Bool.or_eq_true, Bool.not_eq_true', decide_eq_false_iff_not, and_true, true_and]; (first | omega | (and_intros <;> intros <;> (try and_intros) <;> first | omega | assumption | exact trivial)))) (by (first | omega | assumption | exact ⟨rfl, trivial⟩ | simp only [AllP, inK_iff, roomOK_iff, decide_eq_true_eq, Bool.and_eq_true, Bool.or_eq_true, Bool.not_eq_true', decide_eq_false_iff_not, and_true, true_and]; (first | omega | (and_intros <;> intros <;> (try and_intros) <;> first | omega | assumption | exact trivial))))) ?_
    refine good_run 5 (obs := []) (by kernel_rfl) trivial ?_
    refine good_fin [List.length (lis (0 : Int) l) = List.length (lis (0 : Int) l, (0 : Int)).fst ∧ ∀ (i : Nat), i < List.length (lis (0 : Int) l) → (fun i => [SV.int IntKind.i64 (List.getD (lis (0 : Int) l) i (0 : Int))]) i = (fun i => [SV.int IntKind.i64 (List.getD (lis (0 : Int) l, (0 : Int)).fst i (0 : Int))]) i, (0 : Int) = (0 : Int)] (by kernel_rfl) ⟨⟨rfl, fun _ _ => rfl⟩, rfl, trivial⟩
def distL (l : List Int) : Int × Int := if chkL l = 0 then ((msC l.length l).2, 0) else (0, chkL l)
theorem s16 (l : List Int) (hl : l.length ≤ 100000) : Spec Try.prog 16 [ints l] (.tup [.int .i64 (distL l).1, .int .i64 (distL l).2]) := by
  refine spec_of_good mixed Try.func16 F16_ok (by kernel_rfl) ?_
  have h20 := s20 l hl
  refine good_run 10 (obs := []) (by kernel_rfl) trivial ?_
  refine good_call (c := True) (by kernel_rfl) (fun _ => SVles.refl _) (fun _ => s20 (l) (by (first | omega | assumption | exact ⟨rfl, trivial⟩ | simp only [AllP, inK_iff, roomOK_iff, decide_eq_true_eq, Bool.and_eq_true, Bool.or_eq_true, Bool.not_eq_true', decide_eq_false_iff_not, and_true, true_and]; (first | omega | (and_intros <;> intros <;> (try and_intros) <;> first | omega | assumption | exact trivial))))) (by kernel_rfl) ?_
  refine good_run 9 (obs := []) (by kernel_rfl) trivial ?_
  refine good_cond (!decide (chkL l = (0 : Int))) (by kernel_rfl) (fun hc1 => ?_) (fun hc1 => ?_)
  · have e : distL l = (0, chkL l) := if_neg (by simpa using hc1)
    rw [e]
    refine good_run 9 (obs := []) (by kernel_rfl) trivial ?_
    refine good_fin [(0 : Int) = (0 : Int), chkL l = chkL l] (by kernel_rfl) ⟨rfl, rfl, trivial⟩
  · have hc : chkL l = 0 := by simpa using hc1
    have e : distL l = ((msC l.length l).2, 0) := if_pos hc
    obtain ⟨h1, h2, h3, h4⟩ := chk_pos hc
    have h42 := s42 l (by omega)
    rw [e]
    refine good_run 4 (obs := []) (by kernel_rfl) trivial ?_
    refine good_call (c := True) (by kernel_rfl) (fun _ => SVles.refl _) (fun _ => s42 (l) (by (first | omega | assumption | exact ⟨rfl, trivial⟩ | simp only [AllP, inK_iff, roomOK_iff, decide_eq_true_eq, Bool.and_eq_true, Bool.or_eq_true, Bool.not_eq_true', decide_eq_false_iff_not, and_true, true_and]; (first | omega | (and_intros <;> intros <;> (try and_intros) <;> first | omega | assumption | exact trivial))))) (by kernel_rfl) ?_
    refine good_run 5 (obs := []) (by kernel_rfl) trivial ?_
    refine good_fin [(msC (List.length l) l).snd = (msC (List.length l) l).snd, (0 : Int) = (0 : Int)] (by kernel_rfl) ⟨rfl, rfl, trivial⟩
/-- The lengths of the runs of the first k numbers. -/
def runsK (l : List Int) : Nat → List Int
  | 0 => []
  | k + 1 => if k = 0 ∨ l.getD k 0 < l.getD (k - 1) 0 then runsK l k ++ [1] else (runsK l k).set ((runsK l k).length - 1) ((runsK l k).getD ((runsK l k).length - 1) 0 + 1)
theorem runsK_len (l : List Int) : ∀ k, (runsK l k).length ≤ k ∧ (0 < k → 0 < (runsK l k).length)
  | 0 => ⟨Nat.le_refl _, fun h => h⟩
  | k + 1 => by
    obtain ⟨h1, h2⟩ := runsK_len l k
    rw [runsK]
    split
    · rw [List.length_append, List.length_singleton]; omega
    · rw [List.length_set]; omega
theorem runsK_bd (l : List Int) : ∀ k i, i < (runsK l k).length → 0 ≤ (runsK l k).getD i 0 ∧ (runsK l k).getD i 0 ≤ k
  | 0, i, h => by simp [runsK] at h
  | k + 1, i, h => by
    have ih := runsK_bd l k
    rw [runsK] at h ⊢
    split
    · rename_i hc
      rw [if_pos hc, List.length_append, List.length_singleton] at h
      rw [getD_append]
      split
      · rename_i hi; have := ih i hi; omega
      · rw [show i - (runsK l k).length = 0 by omega]
        show 0 ≤ (1 : Int) ∧ (1 : Int) ≤ _
        omega
    · rename_i hc
      rw [if_neg hc, List.length_set] at h
      rw [getD_set _ _ _ _ (by omega)]
      split
      · have := ih ((runsK l k).length - 1) (by omega); omega
      · have := ih i h; omega
def runL (l : List Int) : List Int × Int := if chkL l = 0 then (runsK l l.length, 0) else ([], chkL l)
theorem s18 (l : List Int) (hl : l.length ≤ 100000) : Spec Try.prog 18 [ints l] (.tup [ints (runL l).1, .int .i64 (runL l).2]) := by
  refine spec_of_good mixed Try.func18 F18_ok (by kernel_rfl) ?_
  have h20 := s20 l hl
  refine good_run 10 (obs := []) (by kernel_rfl) trivial ?_
  refine good_call (c := True) (by kernel_rfl) (fun _ => SVles.refl _) (fun _ => s20 (l) (by (first | omega | assumption | exact ⟨rfl, trivial⟩ | simp only [AllP, inK_iff, roomOK_iff, decide_eq_true_eq, Bool.and_eq_true, Bool.or_eq_true, Bool.not_eq_true', decide_eq_false_iff_not, and_true, true_and]; (first | omega | (and_intros <;> intros <;> (try and_intros) <;> first | omega | assumption | exact trivial))))) (by kernel_rfl) ?_
  refine good_run 9 (obs := []) (by kernel_rfl) trivial ?_
  refine good_cond (!decide (chkL l = (0 : Int))) (by kernel_rfl) (fun hc1 => ?_) (fun hc1 => ?_)
  · have e : runL l = ([], chkL l) := if_neg (by simpa using hc1)
    rw [e]
    refine good_run 9 (obs := []) (by kernel_rfl) trivial ?_
    refine good_fin [(0 : Nat) = (0 : Nat), chkL l = chkL l] (by kernel_rfl) ⟨rfl, rfl, trivial⟩
  · have hc : chkL l = 0 := by simpa using hc1
    have e : runL l = (runsK l l.length, 0) := if_pos hc
    rw [e]
    refine good_run 15 (obs := []) (by kernel_rfl) trivial ?_
    refine good_loopJ (fun k : Nat => ⟨[(14, .sv (.int .i64 (k))), (5, .own 0), (13, LV.sv (SV.int IntKind.i64 (↑(List.length l) : Int))), (0, LV.sv (SV.lst (1 : Nat) (List.length l) fun i => [SV.int IntKind.i64 (List.getD l i (0 : Int))]))], [.row 3 1 (runsK l k).length true fun i => [.int .i64 ((runsK l k).getD i 0)]]⟩) (fun k => k ≤ l.length) (fun k => l.length - k) (0) [(0 : Nat) = (0 : Nat), (0 : Int) = (0 : Int), (↑(List.length l) : Int) = (↑(List.length l) : Int), List.length l = List.length l ∧ ∀ (i : Nat), i < List.length l → (fun i => [SV.int IntKind.i64 (List.getD l i (0 : Int))]) i = (fun i => [SV.int IntKind.i64 (List.getD l i (0 : Int))]) i] (by kernel_rfl) (by kernel_rfl) ⟨rfl, rfl, rfl, ⟨rfl, fun _ _ => rfl⟩, trivial⟩ (by omega) ?_
    intro k hk
    obtain ⟨r1, r2⟩ := runsK_len l k
    have r3 := runsK_bd l k
    refine good_run 6 (obs := []) (by kernel_rfl) trivial ?_
    refine good_cond (decide ((↑k : Int) < (↑(List.length l) : Int))) (by kernel_rfl) (fun hc2 => ?_) (fun hc2 => ?_)
    · have hlt : k < l.length := by simp only [decide_eq_true_eq] at hc2; omega
      have ez : ((k : Int) - 1).toNat = k - 1 := by omega
      refine good_run 28 (obs := [decide ((↑k : Int) = (0 : Int)) = false ∧ True → (1 : Nat) = (1 : Nat) ∧ (0 : Int) ≤ (↑k : Int) ∧ (↑k : Int) < (↑(List.length l) : Int), decide ((↑k : Int) = (0 : Int)) = false ∧ True → InK IntKind.i64 ((↑k : Int) - (1 : Int)), decide ((↑k : Int) = (0 : Int)) = false ∧ True → (1 : Nat) = (1 : Nat) ∧ (0 : Int) ≤ (↑k : Int) - (1 : Int) ∧ (↑k : Int) - (1 : Int) < (↑(List.length l) : Int)]) (by kernel_rfl) (by (first | omega | assumption | exact ⟨rfl, trivial⟩ | simp only [AllP, inK_iff, roomOK_iff, decide_eq_true_eq, Bool.and_eq_true, Bool.or_eq_true, Bool.not_eq_true', decide_eq_false_iff_not, and_true, true_and]; (first | omega | (and_intros <;> intros <;> (try and_intros) <;> first | omega | assumption | exact trivial)))) ?_
      refine good_cond (decide ((↑k : Int) = (0 : Int)) || decide (List.getD l k (0 : Int) < List.getD l (Int.toNat ((↑k : Int) - (1 : Int))) (0 : Int))) (by kernel_rfl) (fun hc3 => ?_) (fun hc3 => ?_)
      · have hcd : k = 0 ∨ l.getD k 0 < l.getD (k - 1) 0 := by
          rw [ez] at hc3
          simp only [Bool.or_eq_true, decide_eq_true_eq] at hc3
          omega
        have en : runsK l (k + 1) = runsK l k ++ [1] := by rw [runsK, if_pos hcd]
        have ez2 : (((runsK l k).length + 1 : Nat) - (1 : Int)).toNat = (runsK l k).length := by omega
        have ev : (runsK l k ++ [0]).getD (runsK l k).length 0 = 0 := by
          rw [getD_append_right _ _ _ (Nat.le_refl _), Nat.sub_self]; rfl
        have ev2 := ev
        rw [← ez2] at ev2
        refine good_run 10 (obs := [(3 : Nat) = (3 : Nat) ∧ (1 : Nat) = (1 : Nat) ∧ (1 : Nat) = (1 : Nat) ∧ roomOK (List.length (runsK l k) + (1 : Nat)) (8 : Nat)]) (by kernel_rfl) (by (first | omega | assumption | exact ⟨rfl, trivial⟩ | simp only [AllP, inK_iff, roomOK_iff, decide_eq_true_eq, Bool.and_eq_true, Bool.or_eq_true, Bool.not_eq_true', decide_eq_false_iff_not, and_true, true_and]; (first | omega | (and_intros <;> intros <;> (try and_intros) <;> first | omega | assumption | exact trivial)))) ?_
        refine good_row 0 (t := (3 : Nat)) (sz := (1 : Nat)) (n := List.length (runsK l k) + (1 : Nat)) (mu := true) (get := joinGet (List.length (runsK l k)) (fun i => [SV.int IntKind.i64 (List.getD (runsK l k) i (0 : Int))]) (cutRows (1 : Nat) [SV.int IntKind.i64 (0 : Int)])) (fun i => [.int .i64 ((runsK l k ++ [0]).getD i 0)]) (by kernel_rfl) (fun i hi => by rw [← (row_snoc' (fun x => [SV.int .i64 x]) 0 (runsK l k) 0 1 rfl).2 i hi]; exact svles_refl' _) ?_
        refine good_run 15 (obs := [InK IntKind.i64 ((↑(List.length (runsK l k) + (1 : Nat)) : Int) - (1 : Int)), (1 : Nat) = (1 : Nat) ∧ (0 : Int) ≤ (↑(List.length (runsK l k) + (1 : Nat)) : Int) - (1 : Int) ∧ (↑(List.length (runsK l k) + (1 : Nat)) : Int) - (1 : Int) < (↑(List.length (runsK l k) + (1 : Nat)) : Int), InK IntKind.i64 (List.getD (runsK l k ++ [(0 : Int)]) (Int.toNat ((↑(List.length (runsK l k) + (1 : Nat)) : Int) - (1 : Int))) (0 : Int) + (1 : Int)), (1 : Nat) = (1 : Nat) ∧ (0 : Int) ≤ (↑(List.length (runsK l k) + (1 : Nat)) : Int) - (1 : Int) ∧ (↑(List.length (runsK l k) + (1 : Nat)) : Int) - (1 : Int) < (↑(List.length (runsK l k) + (1 : Nat)) : Int), (1 : Nat) = (1 : Nat) ∧ (0 : Nat) + (1 : Nat) ≤ (1 : Nat), InK IntKind.i64 ((↑k : Int) + (1 : Int))]) (by kernel_rfl) (by (first | omega | assumption | exact ⟨rfl, trivial⟩ | simp only [AllP, inK_iff, roomOK_iff, decide_eq_true_eq, Bool.and_eq_true, Bool.or_eq_true, Bool.not_eq_true', decide_eq_false_iff_not, and_true, true_and]; (first | omega | (and_intros <;> intros <;> (try and_intros) <;> first | omega | assumption | exact trivial)))) ?_
        refine good_backJ (k + 1) [List.length (runsK l k) + (1 : Nat) = List.length (runsK l (k + (1 : Nat))) ∧ ∀ (i : Nat), i < List.length (runsK l k) + (1 : Nat) → (fun j => if j = Int.toNat ((↑(List.length (runsK l k) + (1 : Nat)) : Int) - (1 : Int)) then lay ((fun i => [SV.int IntKind.i64 (List.getD (runsK l k ++ [(0 : Int)]) i (0 : Int))]) (Int.toNat ((↑(List.length (runsK l k) + (1 : Nat)) : Int) - (1 : Int)))) (0 : Nat) [SV.int IntKind.i64 (List.getD (runsK l k ++ [(0 : Int)]) (Int.toNat ((↑(List.length (runsK l k) + (1 : Nat)) : Int) - (1 : Int))) (0 : Int) + (1 : Int))] else (fun i => [SV.int IntKind.i64 (List.getD (runsK l k ++ [(0 : Int)]) i (0 : Int))]) j) i = (fun i => [SV.int IntKind.i64 (List.getD (runsK l (k + (1 : Nat))) i (0 : Int))]) i, (↑k : Int) + (1 : Int) = (↑(k + (1 : Nat)) : Int), (↑(List.length l) : Int) = (↑(List.length l) : Int), List.length l = List.length l ∧ ∀ (i : Nat), i < List.length l → (fun i => [SV.int IntKind.i64 (List.getD l i (0 : Int))]) i = (fun i => [SV.int IntKind.i64 (List.getD l i (0 : Int))]) i] (by kernel_rfl) (by kernel_rfl) ⟨?_, (by omega), rfl, ⟨rfl, fun _ _ => rfl⟩, trivial⟩ (by omega) (by show _ < _; omega)
        refine ⟨by rw [en, List.length_append, List.length_singleton], fun i hi => ?_⟩
        simp only [ez2]
        rw [en]
        by_cases h : i = (runsK l k).length
        · rw [if_pos h, h, ev, getD_append_right _ _ _ (Nat.le_refl _), Nat.sub_self]; rfl
        · rw [if_neg h, getD_append, getD_append, if_pos (by omega), if_pos (by omega)]
      · have hcd : ¬ (k = 0 ∨ l.getD k 0 < l.getD (k - 1) 0) := by
          rw [ez] at hc3
          simp only [Bool.or_eq_false_iff, decide_eq_false_iff_not] at hc3
          omega
        have en : runsK l (k + 1) = (runsK l k).set ((runsK l k).length - 1) ((runsK l k).getD ((runsK l k).length - 1) 0 + 1) := by rw [runsK, if_neg hcd]
        have r4 := r3 ((runsK l k).length - 1) (by have := r2 (by omega); omega)
        have ez2 : (((runsK l k).length : Int) - 1).toNat = (runsK l k).length - 1 := by omega
        have r5 := r4
        rw [← ez2] at r5
        refine good_run 19 (obs := [InK IntKind.i64 ((↑(List.length (runsK l k)) : Int) - (1 : Int)), (1 : Nat) = (1 : Nat) ∧ (0 : Int) ≤ (↑(List.length (runsK l k)) : Int) - (1 : Int) ∧ (↑(List.length (runsK l k)) : Int) - (1 : Int) < (↑(List.length (runsK l k)) : Int), InK IntKind.i64 (List.getD (runsK l k) (Int.toNat ((↑(List.length (runsK l k)) : Int) - (1 : Int))) (0 : Int) + (1 : Int)), (1 : Nat) = (1 : Nat) ∧ (0 : Int) ≤ (↑(List.length (runsK l k)) : Int) - (1 : Int) ∧ (↑(List.length (runsK l k)) : Int) - (1 : Int) < (↑(List.length (runsK l k)) : Int), (1 : Nat) = (1 : Nat) ∧ (0 : Nat) + (1 : Nat) ≤ (1 : Nat), InK IntKind.i64 ((↑k : Int) + (1 : Int))]) (by kernel_rfl) (by (first | omega | assumption | exact ⟨rfl, trivial⟩ | simp only [AllP, inK_iff, roomOK_iff, decide_eq_true_eq, Bool.and_eq_true, Bool.or_eq_true, Bool.not_eq_true', decide_eq_false_iff_not, and_true, true_and]; (first | omega | (and_intros <;> intros <;> (try and_intros) <;> first | omega | assumption | exact trivial)))) ?_
        refine good_backJ (k + 1) [List.length (runsK l k) = List.length (runsK l (k + (1 : Nat))) ∧ ∀ (i : Nat), i < List.length (runsK l k) → (fun j => if j = Int.toNat ((↑(List.length (runsK l k)) : Int) - (1 : Int)) then lay ((fun i => [SV.int IntKind.i64 (List.getD (runsK l k) i (0 : Int))]) (Int.toNat ((↑(List.length (runsK l k)) : Int) - (1 : Int)))) (0 : Nat) [SV.int IntKind.i64 (List.getD (runsK l k) (Int.toNat ((↑(List.length (runsK l k)) : Int) - (1 : Int))) (0 : Int) + (1 : Int))] else (fun i => [SV.int IntKind.i64 (List.getD (runsK l k) i (0 : Int))]) j) i = (fun i => [SV.int IntKind.i64 (List.getD (runsK l (k + (1 : Nat))) i (0 : Int))]) i, (↑k : Int) + (1 : Int) = (↑(k + (1 : Nat)) : Int), (↑(List.length l) : Int) = (↑(List.length l) : Int), List.length l = List.length l ∧ ∀ (i : Nat), i < List.length l → (fun i => [SV.int IntKind.i64 (List.getD l i (0 : Int))]) i = (fun i => [SV.int IntKind.i64 (List.getD l i (0 : Int))]) i] (by kernel_rfl) (by kernel_rfl) ⟨?_, (by omega), rfl, ⟨rfl, fun _ _ => rfl⟩, trivial⟩ (by omega) (by show _ < _; omega)
        refine ⟨by rw [en, List.length_set], fun i hi => ?_⟩
        simp only [ez2]
        rw [en, getD_set _ _ _ _ (by omega)]
        split
        · rfl
        · rfl
    · have : k = l.length := by simp only [decide_eq_false_iff_not] at hc2; omega
      subst this
      refine good_run 2 (obs := []) (by kernel_rfl) trivial ?_
      refine good_leaveJ (by kernel_rfl) ?_
      refine good_run 9 (obs := []) (by kernel_rfl) trivial ?_
      refine good_fin [List.length (runsK l (List.length l)) = List.length (runsK l (List.length l), (0 : Int)).fst ∧ ∀ (i : Nat), i < List.length (runsK l (List.length l)) → (fun i => [SV.int IntKind.i64 (List.getD (runsK l (List.length l)) i (0 : Int))]) i = (fun i => [SV.int IntKind.i64 (List.getD (runsK l (List.length l), (0 : Int)).fst i (0 : Int))]) i, (0 : Int) = (0 : Int)] (by kernel_rfl) ⟨⟨rfl, fun _ _ => rfl⟩, rfl, trivial⟩
end Go.Sx.T
