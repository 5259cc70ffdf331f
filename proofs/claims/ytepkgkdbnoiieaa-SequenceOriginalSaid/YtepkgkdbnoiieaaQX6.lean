/- Contracts of functions of the program, each proved by running its code symbolically (QX6). -/
import Derived.Test.YtepkgkdbnoiieaaQOP
import Derived.Test.YtepkgkdbnoiieaaQV
namespace Go.Sx.T
open Go Go.Proofs Go.Sx
set_option maxRecDepth 100000
set_option maxHeartbeats 8000000
set_option linter.unusedVariables false
set_option linter.unusedSimpArgs false
theorem s35 (x m : Shift) : Spec Try.prog 35 [x.sv, .ref m.cells 0] (.bool (decide (m.Number ≤ x.Number))) := by
  refine spec_of_good mixed Try.func35 F35_ok (by kernel_rfl) ?_
  refine good_run 17 (obs := []) (by kernel_rfl) trivial ?_
  refine good_fin [decide (m.Number ≤ x.Number) = decide (m.Number ≤ x.Number)] (by kernel_rfl) ⟨rfl, trivial⟩
theorem c34 (l : List Shift) (i : Nat) (h : i ≤ l.length) (m : Shift) : Spec Try.prog 34 [.lst 2 i fun k => (l.getD k default).cells, .fn 35 [.ref m.cells 0]] (.bool ((l.take i).any fun x => decide (m.Number ≤ x.Number))) := by
  have := s34 (l.take i) 35 [.ref m.cells 0] (fun x => decide (m.Number ≤ x.Number)) (fun x => s35 x m)
  unfold shifts at this
  rw [List.length_take, Nat.min_eq_left h] at this
  refine ⟨this.1, fun w M0 vs hM hl hd => this.2 w M0 vs hM hl fun j s v hs hv => ?_⟩
  match j, hs with
  | 0, hs =>
    cases hs
    refine svle_lst rfl (fun k hk => ?_) w M0 v (hd 0 _ v rfl hv)
    rw [getD_take _ _ _ hk]
    exact SVles.refl _
  | j + 1, hs => exact hd (j + 1) s v hs hv
theorem s6 (l : List Int) : Spec Try.prog 6 [ints l] (.bool true) := by
  refine spec_len 0 rfl (hasBody_of_slim Try.func6 F6_ok) fun hlen0 => ?_
  refine spec_of_good mixed Try.func6 F6_ok (by kernel_rfl) ?_
  refine good_run 8 (obs := []) (by kernel_rfl) trivial ?_
  refine good_call (c := True) (by kernel_rfl) (fun _ => SVles.refl _) (fun _ => s11) (by kernel_rfl) ?_
  refine good_run 4 (obs := []) (by kernel_rfl) trivial ?_
  refine good_call (c := (!true) = false ∧ True) (by kernel_rfl) (fun _ => SVles.refl _) (fun _ => s12 (l)) (by kernel_rfl) ?_
  refine good_run 5 (obs := []) (by kernel_rfl) trivial ?_
  refine good_cond (!true || !(decide (List.length l ≤ (40 : Nat)) || decide (List.length l = (257 : Nat)))) (by kernel_rfl) (fun hc1 => ?_) (fun hc1 => ?_)
  · refine good_run 2 (obs := []) (by kernel_rfl) trivial ?_
    refine good_call (c := True) (by kernel_rfl) (fun _ => SVles.refl _) (fun _ => s11) (by kernel_rfl) ?_
    refine good_run 5 (obs := []) (by kernel_rfl) trivial ?_
    refine good_fin [true = true] (by kernel_rfl) ⟨rfl, trivial⟩
  · simp only [Bool.or_eq_false_iff, Bool.not_eq_false', Bool.or_eq_true, decide_eq_true_eq, Bool.not_true, true_and] at hc1
    have hl : l.length ≤ 100000 := by omega
    have h0 : (restL l).2 = chkL l := by unfold restL; split <;> simp_all
    have h0' : (presL l).2 = chkL l := by unfold presL; split <;> simp_all
    refine good_run 4 (obs := []) (by kernel_rfl) trivial ?_
    refine good_own (c := True) (by kernel_rfl) (by kernel_rfl) (SVles.refl _) (s14 (List.length l) (fun i => [SV.int IntKind.i64 (List.getD l i (0 : Int))]) (by (first | omega | assumption | exact ⟨rfl, trivial⟩ | simp only [AllP, inK_iff, roomOK_iff, decide_eq_true_eq, Bool.and_eq_true, Bool.or_eq_true, Bool.not_eq_true', decide_eq_false_iff_not, and_true, true_and]; (first | omega | (and_intros <;> intros <;> (try and_intros) <;> first | omega | assumption | exact trivial))))) ?_
    refine good_call (c := True) (by kernel_rfl) (fun _ => SVles.refl _) (fun _ => s23 (l) (by (first | omega | assumption | exact ⟨rfl, trivial⟩ | simp only [AllP, inK_iff, roomOK_iff, decide_eq_true_eq, Bool.and_eq_true, Bool.or_eq_true, Bool.not_eq_true', decide_eq_false_iff_not, and_true, true_and]; (first | omega | (and_intros <;> intros <;> (try and_intros) <;> first | omega | assumption | exact trivial))))) (by kernel_rfl) ?_
    refine good_run 10 (obs := []) (by kernel_rfl) trivial ?_
    refine good_own (c := True) (by kernel_rfl) (by kernel_rfl) (SVles.refl _) (s14 (List.length l) (fun i => [SV.int IntKind.i64 (List.getD l i (0 : Int))]) (by (first | omega | assumption | exact ⟨rfl, trivial⟩ | simp only [AllP, inK_iff, roomOK_iff, decide_eq_true_eq, Bool.and_eq_true, Bool.or_eq_true, Bool.not_eq_true', decide_eq_false_iff_not, and_true, true_and]; (first | omega | (and_intros <;> intros <;> (try and_intros) <;> first | omega | assumption | exact trivial))))) ?_
    refine good_call (c := True) (by kernel_rfl) (fun _ => SVles.refl _) (fun _ => s13 (l) (by (first | omega | assumption | exact ⟨rfl, trivial⟩ | simp only [AllP, inK_iff, roomOK_iff, decide_eq_true_eq, Bool.and_eq_true, Bool.or_eq_true, Bool.not_eq_true', decide_eq_false_iff_not, and_true, true_and]; (first | omega | (and_intros <;> intros <;> (try and_intros) <;> first | omega | assumption | exact trivial))))) (by kernel_rfl) ?_
    refine good_run 14 (obs := []) (by kernel_rfl) trivial ?_
    refine good_cond (!decide ((restL l).snd = (0 : Int))) (by kernel_rfl) (fun hc2 => ?_) (fun hc2 => ?_)
    · have hc : chkL l ≠ 0 := by rw [h0] at hc2; simpa using hc2
      have e1 : restL l = ([], chkL l) := if_neg hc
      have e2 : presL l = ([], chkL l) := if_neg hc
      rw [e1, e2]
      refine good_run 15 (obs := []) (by kernel_rfl) trivial ?_
      refine good_fin [(decide ((0 : Int) = (0 : Int)) && decide (chkL l = chkL l)) = true] (by kernel_rfl) ⟨?_, trivial⟩
      simp
    · have hc : chkL l = 0 := by rw [h0] at hc2; simpa using hc2
      obtain ⟨h1, h2, h3, h4⟩ := chk_pos hc
      have e2 : presL l = (lis 0 l, 0) := if_pos hc
      have hUP := (unset_perm h2).length_eq
      rw [List.length_append] at hUP
      obtain ⟨M, hM⟩ : ∃ M, M = outG (lis 0 l) [] (unset (lis 0 l) (isort l)) := ⟨_, rfl⟩
      have e1 : restL l = (M, 0) := by unfold restL; rw [if_pos hc, rest_all hc, hM]
      have hMl : M.length = (unset (lis 0 l) (isort l)).length := by rw [hM, outG_len]
      have e3 : applyL l M = (isort l, 0) := by
        unfold applyL
        rw [if_pos hc, if_neg (by omega), hM]
        exact rest_sorts hc
      rw [e1, e2]
      have s26 := s26 l M hl
      rw [e3] at s26
      have s27 := s27 M.length (fun i => (M.getD i default).cells) (by omega)
      have c22 : Spec Try.prog 22 [ints (isort l), .lst 1 l.length fun i => [.int .i64 ((isort l).getD i 0)]] (.bool true) := by
        have := s22 (isort l) (isort l)
        rw [decide_eq_true rfl] at this
        unfold ints at this ⊢
        rw [isort_length] at this ⊢
        exact this
      refine good_run 4 (obs := []) (by kernel_rfl) trivial ?_
      refine good_own (c := True) (by kernel_rfl) (by kernel_rfl) (SVles.refl _) (s14 (List.length l) (fun i => [SV.int IntKind.i64 (List.getD l i (0 : Int))]) (by (first | omega | assumption | exact ⟨rfl, trivial⟩ | simp only [AllP, inK_iff, roomOK_iff, decide_eq_true_eq, Bool.and_eq_true, Bool.or_eq_true, Bool.not_eq_true', decide_eq_false_iff_not, and_true, true_and]; (first | omega | (and_intros <;> intros <;> (try and_intros) <;> first | omega | assumption | exact trivial))))) ?_
      refine good_run 1 (obs := []) (by kernel_rfl) trivial ?_
      refine good_own (c := True) (by kernel_rfl) (by kernel_rfl) (SVles.refl _) (s27) ?_
      refine good_call (c := True) (by kernel_rfl) (fun _ => SVles.refl _) (fun _ => s26) (by kernel_rfl) ?_
      refine good_run 20 (obs := []) (by kernel_rfl) trivial ?_
      refine good_call (c := (!decide ((0 : Int) = (0 : Int)) || !decide ((0 : Int) = (0 : Int))) = false ∧ True) (by kernel_rfl) (fun _ => SVles.refl _) (fun _ => s32 (l)) (by kernel_rfl) ?_
      refine good_run 2 (obs := []) (by kernel_rfl) trivial ?_
      refine good_call (c := (!decide ((0 : Int) = (0 : Int)) || !decide ((0 : Int) = (0 : Int))) = false ∧ True) (by kernel_rfl) (fun _ => SVles.refl _) (fun _ => SpecOwn.spec (s31 (l) (by (first | omega | assumption | exact ⟨rfl, trivial⟩ | simp only [AllP, inK_iff, roomOK_iff, decide_eq_true_eq, Bool.and_eq_true, Bool.or_eq_true, Bool.not_eq_true', decide_eq_false_iff_not, and_true, true_and]; (first | omega | (and_intros <;> intros <;> (try and_intros) <;> first | omega | assumption | exact trivial)))))) (by kernel_rfl) ?_
      refine good_run 2 (obs := []) (by kernel_rfl) trivial ?_
      refine good_call (c := (!decide ((0 : Int) = (0 : Int)) || !decide ((0 : Int) = (0 : Int))) = false ∧ True) (by kernel_rfl) (fun _ => SVles.refl _) (fun _ => c22) (by kernel_rfl) ?_
      have hsum : (M.length : Int) + (lis 0 l).length = l.length := by omega
      have hdl : decide ((M.length : Int) + (lis 0 l).length = l.length) = true := decide_eq_true hsum
      refine good_run 15 (obs := [(!decide ((0 : Int) = (0 : Int)) || !decide ((0 : Int) = (0 : Int)) || !true) = false ∧ True → InK IntKind.i64 ((↑(List.length (M, (0 : Int)).fst) : Int) + (↑(List.length (lis (0 : Int) l, (0 : Int)).fst) : Int))]) (by kernel_rfl) (by (first | omega | assumption | exact ⟨rfl, trivial⟩ | simp only [AllP, inK_iff, roomOK_iff, decide_eq_true_eq, Bool.and_eq_true, Bool.or_eq_true, Bool.not_eq_true', decide_eq_false_iff_not, and_true, true_and]; (first | omega | (and_intros <;> intros <;> (try and_intros) <;> first | omega | assumption | exact trivial)))) ?_
      refine good_cond (!decide ((0 : Int) = (0 : Int)) || !decide ((0 : Int) = (0 : Int)) || !true || !decide ((↑(List.length (M, (0 : Int)).fst) : Int) + (↑(List.length (lis (0 : Int) l, (0 : Int)).fst) : Int) = (↑(List.length l) : Int))) (by kernel_rfl) (fun hc3 => ?_) (fun hc3 => ?_)
      · exfalso
        simp [hdl] at hc3
      · refine good_run 10 (obs := []) (by kernel_rfl) trivial ?_
        refine good_loopJ (fun i : Nat => ⟨[(75, .sv (.int .i64 (i))), (74, LV.sv (SV.int IntKind.i64 (↑(List.length (M, (0 : Int)).fst) : Int))), (73, LV.sv (SV.lst (2 : Nat) (List.length (M, (0 : Int)).fst) fun i => Shift.cells (List.getD (M, (0 : Int)).fst i default))), (5, LV.sv (SV.lst (1 : Nat) (List.length (lis (0 : Int) l, (0 : Int)).fst) fun i => [SV.int IntKind.i64 (List.getD (lis (0 : Int) l, (0 : Int)).fst i (0 : Int))])), (3, LV.sv (SV.lst (2 : Nat) (List.length (M, (0 : Int)).fst) fun i => Shift.cells (List.getD (M, (0 : Int)).fst i default)))], []⟩) (fun i => i ≤ M.length) (fun i => M.length - i) (0) [(0 : Int) = (0 : Int), (↑(List.length (M, (0 : Int)).fst) : Int) = (↑(List.length (M, (0 : Int)).fst) : Int), List.length (M, (0 : Int)).fst = List.length (M, (0 : Int)).fst ∧ ∀ (i : Nat), i < List.length (M, (0 : Int)).fst → (fun i => Shift.cells (List.getD (M, (0 : Int)).fst i default)) i = (fun i => Shift.cells (List.getD (M, (0 : Int)).fst i default)) i, List.length (lis (0 : Int) l, (0 : Int)).fst = List.length (lis (0 : Int) l, (0 : Int)).fst ∧ ∀ (i : Nat), i < List.length (lis (0 : Int) l, (0 : Int)).fst → (fun i => [SV.int IntKind.i64 (List.getD (lis (0 : Int) l, (0 : Int)).fst i (0 : Int))]) i = (fun i => [SV.int IntKind.i64 (List.getD (lis (0 : Int) l, (0 : Int)).fst i (0 : Int))]) i, List.length (M, (0 : Int)).fst = List.length (M, (0 : Int)).fst ∧ ∀ (i : Nat), i < List.length (M, (0 : Int)).fst → (fun i => Shift.cells (List.getD (M, (0 : Int)).fst i default)) i = (fun i => Shift.cells (List.getD (M, (0 : Int)).fst i default)) i] (by kernel_rfl) (by kernel_rfl) ⟨rfl, rfl, ⟨rfl, fun _ _ => rfl⟩, ⟨rfl, fun _ _ => rfl⟩, ⟨rfl, fun _ _ => rfl⟩, trivial⟩ (by omega) ?_
        intro i hi
        refine good_run 6 (obs := []) (by kernel_rfl) trivial ?_
        refine good_cond (decide ((↑i : Int) < (↑(List.length (M, (0 : Int)).fst) : Int))) (by kernel_rfl) (fun hc4 => ?_) (fun hc4 => ?_)
        · have hlt : i < M.length := by simp only [decide_eq_true_eq] at hc4; omega
          have hnum : (M.getD i default).Number ∉ lis 0 l ∧ ((M.take i).any fun x => decide ((M.getD i default).Number ≤ x.Number)) = false := by
            have hU : (unset (lis 0 l) (isort l)).Pairwise (· < ·) := (isort_lt h2).sublist List.filter_sublist
            have hnums : M.map Shift.Number = unset (lis 0 l) (isort l) := by rw [hM]; exact outG_nums _ _ _
            have hat : ∀ j, j < M.length → (unset (lis 0 l) (isort l)).getD j 0 = (M.getD j default).Number := fun j hj => by
              rw [← hnums, getD_of_lt _ j (by rw [List.length_map]; exact hj), getD_of_lt M j hj, List.getElem_map]
            constructor
            · rw [← hat i hlt]
              have := (List.mem_filter.1 (getD_mem (unset (lis 0 l) (isort l)) 0 i (by omega))).2
              simpa using this
            · rw [List.any_eq_false]
              intro x hx
              obtain ⟨j, hj, e⟩ := List.mem_iff_getElem.1 hx
              rw [List.length_take] at hj
              rw [List.getElem_take] at e
              have h5 := rise_at hU (show j < i by omega) (by omega)
              rw [hat i hlt, hat j (by omega), getD_of_lt M j (by omega), e] at h5
              simp only [decide_eq_true_eq]
              omega
          have c34 := c34 M i (by omega) (M.getD i default)
          rw [hnum.2] at c34
          refine good_run 18 (obs := [(2 : Nat) = (2 : Nat) ∧ (0 : Int) ≤ (↑i : Int) ∧ (↑i : Int) < (↑(List.length (M, (0 : Int)).fst) : Int), (0 : Nat) + (2 : Nat) ≤ (2 : Nat), (2 : Nat) = (2 : Nat) ∧ (0 : Nat) + (2 : Nat) ≤ (2 : Nat)]) (by kernel_rfl) (by (first | omega | assumption | exact ⟨rfl, trivial⟩ | simp only [AllP, inK_iff, roomOK_iff, decide_eq_true_eq, Bool.and_eq_true, Bool.or_eq_true, Bool.not_eq_true', decide_eq_false_iff_not, and_true, true_and]; (first | omega | (and_intros <;> intros <;> (try and_intros) <;> first | omega | assumption | exact trivial)))) ?_
          refine good_call (c := True) (by kernel_rfl) (fun _ => SVles.refl _) (fun _ => s33 ((lis (0 : Int) l, (0 : Int)).fst) ((List.getD (M, (0 : Int)).fst i default).Number)) (by kernel_rfl) ?_
          refine good_run 6 (obs := [decide ((List.getD (M, (0 : Int)).fst i default).Number ∈ (lis (0 : Int) l, (0 : Int)).fst) = false ∧ True → (2 : Nat) = (2 : Nat) ∧ (0 : Int) ≤ (0 : Int) ∧ (0 : Int) ≤ (↑i : Int) ∧ (↑i : Int) ≤ (↑(List.length (M, (0 : Int)).fst) : Int)]) (by kernel_rfl) (by (first | omega | assumption | exact ⟨rfl, trivial⟩ | simp only [AllP, inK_iff, roomOK_iff, decide_eq_true_eq, Bool.and_eq_true, Bool.or_eq_true, Bool.not_eq_true', decide_eq_false_iff_not, and_true, true_and]; (first | omega | (and_intros <;> intros <;> (try and_intros) <;> first | omega | assumption | exact trivial)))) ?_
          refine good_call (args := [SV.lst (2 : Nat) (i - (0 : Nat)) fun i => (fun i => Shift.cells (List.getD (M, (0 : Int)).fst i default)) (Int.toNat (0 : Int) + i), SV.fn (35 : Nat) [SV.ref [SV.int IntKind.i64 (List.getD (M, (0 : Int)).fst i default).Number, SV.int IntKind.i64 (List.getD (M, (0 : Int)).fst i default).Before] (0 : Nat)]]) (c := decide ((List.getD (M, (0 : Int)).fst i default).Number ∈ (lis (0 : Int) l, (0 : Int)).fst) = false ∧ True) (by kernel_rfl) (fun _ => show SVles _ [.lst 2 i fun k => (M.getD k default).cells, .fn 35 [.ref (M.getD i default).cells 0]] from ⟨svle_lst (Nat.sub_zero _) fun k _ => (by simp only [Int.toNat_zero, Nat.zero_add]; exact SVles.refl _), SVle.refl _, trivial⟩) (fun _ => c34) (by kernel_rfl) ?_
          refine good_run 4 (obs := []) (by kernel_rfl) trivial ?_
          refine good_cond (decide ((List.getD (M, (0 : Int)).fst i default).Number ∈ (lis (0 : Int) l, (0 : Int)).fst) && true) (by kernel_rfl) (fun hc5 => ?_) (fun hc5 => ?_)
          · exfalso
            have : decide ((M.getD i default).Number ∈ lis 0 l) = false := decide_eq_false hnum.1
            simp [this] at hc5
            exact hnum.1 hc5
          · refine good_run 7 (obs := [InK IntKind.i64 ((↑i : Int) + (1 : Int))]) (by kernel_rfl) (by (first | omega | assumption | exact ⟨rfl, trivial⟩ | simp only [AllP, inK_iff, roomOK_iff, decide_eq_true_eq, Bool.and_eq_true, Bool.or_eq_true, Bool.not_eq_true', decide_eq_false_iff_not, and_true, true_and]; (first | omega | (and_intros <;> intros <;> (try and_intros) <;> first | omega | assumption | exact trivial)))) ?_
            refine good_backJ (i + 1) [(↑i : Int) + (1 : Int) = (↑(i + (1 : Nat)) : Int), (↑(List.length (M, (0 : Int)).fst) : Int) = (↑(List.length (M, (0 : Int)).fst) : Int), List.length (M, (0 : Int)).fst = List.length (M, (0 : Int)).fst ∧ ∀ (i : Nat), i < List.length (M, (0 : Int)).fst → (fun i => Shift.cells (List.getD (M, (0 : Int)).fst i default)) i = (fun i => Shift.cells (List.getD (M, (0 : Int)).fst i default)) i, List.length (lis (0 : Int) l, (0 : Int)).fst = List.length (lis (0 : Int) l, (0 : Int)).fst ∧ ∀ (i : Nat), i < List.length (lis (0 : Int) l, (0 : Int)).fst → (fun i => [SV.int IntKind.i64 (List.getD (lis (0 : Int) l, (0 : Int)).fst i (0 : Int))]) i = (fun i => [SV.int IntKind.i64 (List.getD (lis (0 : Int) l, (0 : Int)).fst i (0 : Int))]) i, List.length (M, (0 : Int)).fst = List.length (M, (0 : Int)).fst ∧ ∀ (i : Nat), i < List.length (M, (0 : Int)).fst → (fun i => Shift.cells (List.getD (M, (0 : Int)).fst i default)) i = (fun i => Shift.cells (List.getD (M, (0 : Int)).fst i default)) i] (by kernel_rfl) (by kernel_rfl) ⟨(by omega), rfl, ⟨rfl, fun _ _ => rfl⟩, ⟨rfl, fun _ _ => rfl⟩, ⟨rfl, fun _ _ => rfl⟩, trivial⟩ (by omega) (by show _ < _; omega)
        · refine good_run 2 (obs := []) (by kernel_rfl) trivial ?_
          refine good_leaveJ (by kernel_rfl) ?_
          refine good_run 7 (obs := []) (by kernel_rfl) trivial ?_
          refine good_fin [true = true] (by kernel_rfl) ⟨rfl, trivial⟩
end Go.Sx.T
