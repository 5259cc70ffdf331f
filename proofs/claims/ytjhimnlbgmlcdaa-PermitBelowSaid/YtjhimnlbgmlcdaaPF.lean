/- Contracts of functions of the program, each proved by running its code symbolically (PF). -/
import Derived.Test.YtjhimnlbgmlcdaaPE
namespace Go.Sx.T
open Go Go.Proofs Go.Sx
set_option maxRecDepth 100000
set_option maxHeartbeats 4000000
set_option linter.unusedVariables false
set_option linter.unusedSimpArgs false
theorem ints_lit (l : List Int) : SVle (.lst 1 l.length (cutRows 1 (l.map (SV.int .i64)))) (ints l) :=
  svle_lst rfl fun i hi => SVles.of_eq (by
    show (((l.map (SV.int .i64)).drop (i * 1)).take 1) = [SV.int .i64 (l.getD i 0)]
    rw [Nat.mul_one, List.drop_eq_getElem_cons (by simpa using hi)]
    simp [List.getD, hi])
def ap : Permit := ⟨3, 8, 20, 5, 100, 1048576⟩
theorem s11 : Spec Try.prog 11 [] (.bool true) := by
  refine spec_of_good mixed Try.func11 F11_ok (by kernel_rfl) ?_
  refine good_run 16 (obs := [(6 : Nat) = (6 : Nat) ∧ (0 : Nat) + (6 : Nat) ≤ (6 : Nat), (0 : Nat) + (6 : Nat) ≤ (6 : Nat)]) (by kernel_rfl) (by (first | omega | assumption | exact ⟨rfl, trivial⟩ | simp only [AllP, inK_iff, roomOK_iff, decide_eq_true_eq, Bool.and_eq_true, Bool.or_eq_true, Bool.not_eq_true', decide_eq_false_iff_not, and_true, true_and]; omega)) ?_
  refine good_call (c := True) (by kernel_rfl) (fun _ => SVles.cons (svle_nil rfl) (SVles.refl _)) (fun _ => s19 [] ap) (by kernel_rfl) ?_
  refine good_run 11 (obs := []) (by kernel_rfl) trivial ?_
  refine good_call (c := True) (by kernel_rfl) (fun _ => SVles.cons (SVle.refl _) (SVles.cons (SVle.refl _) (SVles.cons (ints_lit [22, 21, 20]) (SVles.refl _)))) (fun _ => s24 (granted [] ap).1 8 [22, 21, 20] 3 100) (by kernel_rfl) ?_
  refine good_run 10 (obs := []) (by kernel_rfl) trivial ?_
  refine good_call (c := True) (by kernel_rfl) (fun _ => SVles.refl _) (fun _ => s21 (granted [] ap).1 3 150) (by kernel_rfl) ?_
  refine good_run 10 (obs := []) (by kernel_rfl) trivial ?_
  refine good_call (c := True) (by kernel_rfl) (fun _ => SVles.refl _) (fun _ => s21 (granted [] ap).1 3 90) (by kernel_rfl) ?_
  refine good_run 20 (obs := [(decide (ap.ID = (3 : Int)) && true) = true ∧ True → (0 : Nat) + (6 : Nat) ≤ (6 : Nat)]) (by kernel_rfl) (by (first | omega | assumption | exact ⟨rfl, trivial⟩ | simp only [AllP, inK_iff, roomOK_iff, decide_eq_true_eq, Bool.and_eq_true, Bool.or_eq_true, Bool.not_eq_true', decide_eq_false_iff_not, and_true, true_and]; omega)) ?_
  refine good_call (c := (decide (ap.ID = (3 : Int)) && true) = true ∧ True) (by kernel_rfl) (fun _ => SVles.cons (SVle.refl _) (SVles.cons (SVle.refl _) (SVles.cons (ints_lit [20]) (SVles.refl _)))) (fun _ => s13 ap 8 [20] 1 100) (by kernel_rfl) ?_
  refine good_run 8 (obs := [(decide (ap.ID = (3 : Int)) && true && coversB ap (8 : Int) [(20 : Int)] (1 : Int) (100 : Int)) = true ∧ True → (0 : Nat) + (6 : Nat) ≤ (6 : Nat)]) (by kernel_rfl) (by (first | omega | assumption | exact ⟨rfl, trivial⟩ | simp only [AllP, inK_iff, roomOK_iff, decide_eq_true_eq, Bool.and_eq_true, Bool.or_eq_true, Bool.not_eq_true', decide_eq_false_iff_not, and_true, true_and]; omega)) ?_
  refine good_call (c := (decide (ap.ID = (3 : Int)) && true && coversB ap (8 : Int) [(20 : Int)] (1 : Int) (100 : Int)) = true ∧ True) (by kernel_rfl) (fun _ => SVles.cons (SVle.refl _) (SVles.cons (SVle.refl _) (SVles.cons (ints_lit [20]) (SVles.refl _)))) (fun _ => s13 ap 8 [20] 2 100) (by kernel_rfl) ?_
  refine good_run 33 (obs := [(decide (ap.ID = (3 : Int)) && true && coversB ap (8 : Int) [(20 : Int)] (1 : Int) (100 : Int) && !coversB ap (8 : Int) [(20 : Int)] (2 : Int) (100 : Int) && decide ((1 : Int) = (1 : Int))) = true ∧ True → (6 : Nat) = (6 : Nat) ∧ (0 : Int) ≤ (0 : Int) ∧ (0 : Int) < (1 : Int), (decide (ap.ID = (3 : Int)) && true && coversB ap (8 : Int) [(20 : Int)] (1 : Int) (100 : Int) && !coversB ap (8 : Int) [(20 : Int)] (2 : Int) (100 : Int) && decide ((1 : Int) = (1 : Int)) && decide ((List.getD [Permit.until (List.getD (granted [] ap).fst (0 : Nat) default) (150 : Int)] (0 : Nat) default).Until = (150 : Int)) && decide ((0 : Int) = (0 : Int))) = true ∧ True → InK IntKind.i64 ((0 : Int) + (0 : Int)), (decide (ap.ID = (3 : Int)) && true && coversB ap (8 : Int) [(20 : Int)] (1 : Int) (100 : Int) && !coversB ap (8 : Int) [(20 : Int)] (2 : Int) (100 : Int) && decide ((1 : Int) = (1 : Int)) && decide ((List.getD [Permit.until (List.getD (granted [] ap).fst (0 : Nat) default) (150 : Int)] (0 : Nat) default).Until = (150 : Int)) && decide ((0 : Int) = (0 : Int))) = true ∧ True → InK IntKind.i64 ((0 : Int) + (0 : Int) + (0 : Int))]) (by kernel_rfl) (by (first | omega | assumption | exact ⟨rfl, trivial⟩ | simp only [AllP, inK_iff, roomOK_iff, decide_eq_true_eq, Bool.and_eq_true, Bool.or_eq_true, Bool.not_eq_true', decide_eq_false_iff_not, and_true, true_and]; omega)) ?_
  refine good_fin [(decide (ap.ID = (3 : Int)) && true && coversB ap (8 : Int) [(20 : Int)] (1 : Int) (100 : Int) && !coversB ap (8 : Int) [(20 : Int)] (2 : Int) (100 : Int) && decide ((1 : Int) = (1 : Int)) && decide ((List.getD [Permit.until (List.getD (granted [] ap).fst (0 : Nat) default) (150 : Int)] (0 : Nat) default).Until = (150 : Int)) && decide ((0 : Int) = (0 : Int)) && decide ((0 : Int) + (0 : Int) + (0 : Int) = (0 : Int))) = true] (by kernel_rfl) ⟨?_, trivial⟩
  kernel_rfl
theorem s3 (l : List Permit) (reader : Int) (path : List Int) (kind day : Int) : Spec Try.prog 3 [permits l, asked reader path kind day] (.bool true) := by
  refine spec_len 0 rfl (hasBody_of_slim Try.func3 F3_ok) fun hlen => ?_
  refine spec_of_good mixed Try.func3 F3_ok (by kernel_rfl) ?_
  refine good_run 9 (obs := []) (by kernel_rfl) trivial ?_
  refine good_call (c := True) (by kernel_rfl) (fun _ => SVles.refl _) (fun _ => s11) (by kernel_rfl) ?_
  refine good_run 3 (obs := []) (by kernel_rfl) trivial ?_
  refine good_cond false (by kernel_rfl) (fun h => nomatch h) (fun _ => ?_)
  refine good_run 11 (obs := []) (by kernel_rfl) trivial ?_
  refine good_call (c := decide ((20 : Int) < (↑(List.length path) : Int)) = false ∧ True) (by kernel_rfl) (fun _ => SVles.refl _) (fun _ => s12a (l)) (by kernel_rfl) ?_
  refine good_run 10 (obs := []) (by kernel_rfl) trivial ?_
  refine good_cond (decide ((20 : Int) < (↑(List.length path) : Int)) || !decide (List.length l ≤ (20 : Nat)) && !decide ((↑(List.length l) : Int) = (65 : Int))) (by kernel_rfl) (fun hc1 => ?_) (fun hc1 => ?_)
  · refine good_run 7 (obs := []) (by kernel_rfl) trivial ?_
    refine good_fin [true = true] (by kernel_rfl) ⟨rfl, trivial⟩
  · refine good_run 14 (obs := [(6 : Nat) = (6 : Nat) ∧ (0 : Int) ≤ (0 : Int) ∧ (0 : Int) ≤ min (↑(List.length l) : Int) (20 : Int) ∧ min (↑(List.length l) : Int) (20 : Int) ≤ (↑(List.length l) : Int)]) (by kernel_rfl) (by (first | omega | assumption | exact ⟨rfl, trivial⟩ | simp only [AllP, inK_iff, roomOK_iff, decide_eq_true_eq, Bool.and_eq_true, Bool.or_eq_true, Bool.not_eq_true', decide_eq_false_iff_not, and_true, true_and]; omega)) ?_
    simp only [Bool.or_eq_false_iff, decide_eq_false_iff_not, Bool.and_eq_false_iff, Bool.not_eq_false', decide_eq_true_eq] at hc1
    have hl : l.length ≤ 65 := by omega
    have hp : path.length ≤ 20 := by omega
    have h20 : (l.take 20).length ≤ 20 := List.length_take_le 20 l
    refine good_loopJ (fun k : Nat => ⟨[(0, .sv (permits l)), (3, .ptr 0 0), (27, .sv (permits (l.take 20))), (28, .sv (.int .i64 (l.take 20).length)), (29, .sv (.int .i64 k))], [.cells 25 true [.int .i64 reader, ints path, .int .i64 kind, .int .i64 day]]⟩) (fun k => k ≤ (l.take 20).length) (fun k => (l.take 20).length - k) (0) [reader = reader, List.length path = List.length path ∧ ∀ (i : Nat), i < List.length path → (fun i => [SV.int IntKind.i64 (List.getD path i (0 : Int))]) i = (fun i => [SV.int IntKind.i64 (List.getD path i (0 : Int))]) i, kind = kind, day = day, List.length l = List.length l ∧ ∀ (i : Nat), i < List.length l → (fun i => Permit.cells (List.getD l i default)) i = (fun i => Permit.cells (List.getD l i default)) i, Int.toNat (min (↑(List.length l) : Int) (20 : Int)) - (0 : Nat) = List.length (List.take (20 : Nat) l) ∧ ∀ (i : Nat), i < Int.toNat (min (↑(List.length l) : Int) (20 : Int)) - (0 : Nat) → (fun i => (fun i => Permit.cells (List.getD l i default)) (Int.toNat (0 : Int) + i)) i = (fun i => Permit.cells (List.getD (List.take (20 : Nat) l) i default)) i, (↑(Int.toNat (min (↑(List.length l) : Int) (20 : Int)) - (0 : Nat)) : Int) = (↑(List.length (List.take (20 : Nat) l)) : Int), (0 : Int) = (0 : Int)] (by kernel_rfl) (by kernel_rfl) ⟨rfl, ⟨rfl, fun _ _ => rfl⟩, rfl, rfl, ⟨rfl, fun _ _ => rfl⟩, ?_, ?_, rfl, trivial⟩ ?_ ?_
    · simp only [List.length_take]
      refine ⟨by omega, fun i hi => ?_⟩
      rw [getD_take _ _ _ (by omega)]
      simp
    · simp only [List.length_take]; omega
    · exact Nat.zero_le _
    · intro k hk
      refine good_run 6 (obs := []) (by kernel_rfl) trivial ?_
      refine good_cond (decide ((↑k : Int) < (↑(List.length (List.take (20 : Nat) l)) : Int))) (by kernel_rfl) (fun hc2 => ?_) (fun hc2 => ?_)
      · have hlt : k < (l.take 20).length := by simp only [decide_eq_true_eq] at hc2; omega
        refine good_run 17 (obs := [(6 : Nat) = (6 : Nat) ∧ (0 : Int) ≤ (↑k : Int) ∧ (↑k : Int) < (↑(List.length (List.take (20 : Nat) l)) : Int), (0 : Nat) + (6 : Nat) ≤ (6 : Nat), (6 : Nat) = (6 : Nat) ∧ (0 : Nat) + (6 : Nat) ≤ (6 : Nat), True → (0 : Nat) + (6 : Nat) ≤ (6 : Nat), True → (0 : Nat) + (4 : Nat) ≤ (4 : Nat)]) (by kernel_rfl) (by (first | omega | assumption | exact ⟨rfl, trivial⟩ | simp only [AllP, inK_iff, roomOK_iff, decide_eq_true_eq, Bool.and_eq_true, Bool.or_eq_true, Bool.not_eq_true', decide_eq_false_iff_not, and_true, true_and]; omega)) ?_
        refine good_call (c := True) (by kernel_rfl) (fun _ => SVles.refl _) (fun _ => SpecOwn.spec (s14 (reader) (path) (kind) (day) (by (first | omega | assumption | exact ⟨rfl, trivial⟩ | simp only [AllP, inK_iff, roomOK_iff, decide_eq_true_eq, Bool.and_eq_true, Bool.or_eq_true, Bool.not_eq_true', decide_eq_false_iff_not, and_true, true_and]; omega)))) (by kernel_rfl) ?_
        refine good_run 4 (obs := []) (by kernel_rfl) trivial ?_
        refine good_call (c := True) (by kernel_rfl) (fun _ => SVles.refl _) (fun _ => s13 (List.getD (List.take (20 : Nat) l) k default) (reader) (path) (kind) (day)) (by kernel_rfl) ?_
        refine good_run 9 (obs := [True → (0 : Nat) + (6 : Nat) ≤ (6 : Nat)]) (by kernel_rfl) (by (first | omega | assumption | exact ⟨rfl, trivial⟩ | simp only [AllP, inK_iff, roomOK_iff, decide_eq_true_eq, Bool.and_eq_true, Bool.or_eq_true, Bool.not_eq_true', decide_eq_false_iff_not, and_true, true_and]; omega)) ?_
        refine good_call (c := True) (by kernel_rfl) (fun _ => SVles.refl _) (fun _ => s15 (List.getD (List.take (20 : Nat) l) k default) (reader) (path) (kind) (day)) (by kernel_rfl) ?_
        refine good_run 3 (obs := []) (by kernel_rfl) trivial ?_
        refine good_cond (coversB (List.getD (List.take (20 : Nat) l) k default) reader path kind day != coversB (List.getD (List.take (20 : Nat) l) k default) reader path kind day) (by kernel_rfl) (fun hc3 => ?_) (fun hc3 => ?_)
        · simp at hc3
        · refine good_run 7 (obs := [InK IntKind.i64 ((↑k : Int) + (1 : Int))]) (by kernel_rfl) (by (first | omega | assumption | exact ⟨rfl, trivial⟩ | simp only [AllP, inK_iff, roomOK_iff, decide_eq_true_eq, Bool.and_eq_true, Bool.or_eq_true, Bool.not_eq_true', decide_eq_false_iff_not, and_true, true_and]; omega)) ?_
          refine good_backJ (k + 1) [reader = reader, List.length path = List.length path ∧ ∀ (i : Nat), i < List.length path → (fun i => [SV.int IntKind.i64 (List.getD path i (0 : Int))]) i = (fun i => [SV.int IntKind.i64 (List.getD path i (0 : Int))]) i, kind = kind, day = day, List.length l = List.length l ∧ ∀ (i : Nat), i < List.length l → (fun i => Permit.cells (List.getD l i default)) i = (fun i => Permit.cells (List.getD l i default)) i, List.length (List.take (20 : Nat) l) = List.length (List.take (20 : Nat) l) ∧ ∀ (i : Nat), i < List.length (List.take (20 : Nat) l) → (fun i => Permit.cells (List.getD (List.take (20 : Nat) l) i default)) i = (fun i => Permit.cells (List.getD (List.take (20 : Nat) l) i default)) i, (↑(List.length (List.take (20 : Nat) l)) : Int) = (↑(List.length (List.take (20 : Nat) l)) : Int), (↑k : Int) + (1 : Int) = (↑(k + (1 : Nat)) : Int)] (by kernel_rfl) (by kernel_rfl) ⟨rfl, ⟨rfl, fun _ _ => rfl⟩, rfl, rfl, ⟨rfl, fun _ _ => rfl⟩, ⟨rfl, fun _ _ => rfl⟩, rfl, (by omega), trivial⟩ ?_ ?_
          · exact hlt
          · show _ < _; omega
      · refine good_run 2 (obs := []) (by kernel_rfl) trivial ?_
        refine good_leaveJ (by kernel_rfl) ?_
        refine good_run 4 (obs := []) (by kernel_rfl) trivial ?_
        refine good_own (c := True) (by kernel_rfl) (by kernel_rfl) (SVles.refl _) (s17 (l) (by (first | omega | assumption | exact ⟨rfl, trivial⟩ | simp only [AllP, inK_iff, roomOK_iff, decide_eq_true_eq, Bool.and_eq_true, Bool.or_eq_true, Bool.not_eq_true', decide_eq_false_iff_not, and_true, true_and]; omega))) ?_
        refine good_call (c := True) (by kernel_rfl) (fun _ => SVles.refl _) (fun _ => s16 (l)) (by kernel_rfl) ?_
        refine good_run 1 (obs := []) (by kernel_rfl) trivial ?_
        refine good_call (c := True) (by kernel_rfl) (fun _ => SVles.refl _) (fun _ => s18 (l)) (by kernel_rfl) ?_
        refine good_run 5 (obs := []) (by kernel_rfl) trivial ?_
        refine good_fin [decide (check l = check l) = true] (by kernel_rfl) ⟨?_, trivial⟩
        simp
end Go.Sx.T
