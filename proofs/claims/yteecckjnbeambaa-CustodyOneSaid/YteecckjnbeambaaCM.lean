/- Contracts of functions of the program, each proved by running its code symbolically (CM). -/
import Derived.Test.YteecckjnbeambaaCL
namespace Go.Sx.T
open Go Go.Proofs Go.Sx
set_option maxRecDepth 100000
set_option maxHeartbeats 4000000
set_option linter.unusedVariables false
set_option linter.unusedSimpArgs false
theorem isort_filter {ks qs : List Int} {f g : Int → Bool} (h1 : ks.Nodup) (h2 : qs.Nodup) (h : ∀ x, (x ∈ ks ∧ f x = true) ↔ (x ∈ qs ∧ g x = true)) : (isort ks).filter f = isort (qs.filter g) := by
  have p1 : ((isort ks).filter f).Perm (qs.filter g) := by
    refine ((isort_perm ks).filter f).trans ((List.perm_ext_iff_of_nodup (h1.filter f) (h2.filter g)).2 fun x => ?_)
    rw [List.mem_filter, List.mem_filter]
    exact h x
  refine List.Perm.eq_of_pairwise (le := (· ≤ ·)) (fun x y _ _ h1 h2 => Int.le_antisymm h1 h2) ((isort_sorted ks).filter f) (isort_sorted _) (p1.trans (isort_perm _).symm)
theorem lastP_none (l : List Move) (b : Int) (h : b ∉ l.map Move.Box) : lastP l b = ⟨0, 0⟩ := by
  induction l using rev_ind with
  | h0 => rfl
  | h1 l m ih =>
    rw [List.map_append, List.mem_append, not_or] at h
    rw [lastP_snoc, if_neg (fun e => h.2 (by simp [e])), ih h.1]
theorem at_eq (l : List Move) (p : Place) (d : Int) (hp : p.Kind ≠ 0) : (isort (keysL l)).filter (fun k => decide (lastP (untilL l d) k = p)) = isort ((keysL (untilL l d)).filter fun k => decide (p = lastP (untilL l d) k)) := by
  refine isort_filter (keysL_nodup _) (keysL_nodup _) fun x => ?_
  simp only [decide_eq_true_eq]
  constructor
  · rintro ⟨h1, h2⟩
    refine ⟨?_, h2.symm⟩
    rw [keysL_mem]
    refine Classical.byContradiction fun h => hp ?_
    rw [← h2, lastP_none _ _ h]
  · rintro ⟨h1, h2⟩
    refine ⟨?_, h2.symm⟩
    rw [keysL_mem] at h1 ⊢
    rw [until_len, List.map_take] at h1
    exact List.mem_of_mem_take h1
theorem s21 (l : List Move) (p : Place) (d : Int) : Spec Try.prog 21 [moves l, p.sv, .int .i64 d] (.tup [ints (atL l p d).1, .int .i64 (atL l p d).2]) := by
  refine spec_of_good mixed Try.func21 F21_ok (by kernel_rfl) ?_
  have heq := eq24
  refine good_run 10 (obs := []) (by kernel_rfl) trivial ?_
  refine good_call (c := True) (by kernel_rfl) (fun _ => SVles.refl _) (fun _ => s27 (l)) (by kernel_rfl) ?_
  refine good_run 14 (obs := []) (by kernel_rfl) trivial ?_
  refine good_cond (!decide ((boxesF l).snd = (0 : Int))) (by kernel_rfl) (fun hc1 => ?_) (fun hc1 => ?_)
  · have hc : checkL l ≠ 0 := fun h => by
      have e : boxesF l = (isort (keysL l), 0) := if_neg (by simp [h])
      rw [e] at hc1; simp at hc1
    have e : atL l p d = ([], 1) := if_pos hc
    have e2 : boxesF l = ([], 1) := if_pos hc
    rw [e, e2]
    refine good_run 9 (obs := []) (by kernel_rfl) trivial ?_
    refine good_fin [(0 : Nat) = (0 : Nat), (1 : Int) = (1 : Int)] (by kernel_rfl) ⟨rfl, rfl, trivial⟩
  · have hc : checkL l = 0 := Classical.byContradiction fun h => by
      have e2 : boxesF l = ([], 1) := if_pos h
      rw [e2] at hc1; simp at hc1
    have e2 : boxesF l = (isort (keysL l), 0) := if_neg (by simp [hc])
    have hll := ((checkL_iff l).1 hc).1
    have hsl : (isort (keysL l)).length ≤ 1024 := by rw [isort_length]; have := keysL_len l; omega
    refine good_run 5 (obs := [(0 : Nat) + (2 : Nat) ≤ (2 : Nat)]) (by kernel_rfl) (by (first | omega | assumption | exact ⟨rfl, trivial⟩ | simp only [AllP, inK_iff, roomOK_iff, decide_eq_true_eq, Bool.and_eq_true, Bool.or_eq_true, Bool.not_eq_true', decide_eq_false_iff_not, and_true, true_and]; (first | omega | (and_intros <;> intros <;> (try and_intros) <;> first | omega | assumption | exact trivial)))) ?_
    refine good_call (c := True) (by kernel_rfl) (fun _ => SVles.refl _) (fun _ => s44 (p.Kind) (p.Of)) (by kernel_rfl) ?_
    refine good_run 16 (obs := []) (by kernel_rfl) trivial ?_
    refine good_cond (!placed { Kind := p.Kind, Of := p.Of } || decide (p.Kind = (0 : Int)) || decide (d < (0 : Int)) || decide ((1048575 : Int) < d)) (by kernel_rfl) (fun hc2 => ?_) (fun hc2 => ?_)
    · have e : atL l p d = ([], 2) := by
        rw [atL, if_neg (by simp [hc]), if_neg]
        simp only [Bool.or_eq_true, Bool.not_eq_true', decide_eq_true_eq] at hc2
        rintro ⟨h1, h2, h3⟩
        simp only [okDay, Bool.and_eq_true, decide_eq_true_eq] at h3
        rw [show placed ⟨p.Kind, p.Of⟩ = true from h1] at hc2
        simp at hc2
        omega
      rw [e]
      refine good_run 8 (obs := []) (by kernel_rfl) trivial ?_
      refine good_fin [(0 : Nat) = (0 : Nat), (2 : Int) = (2 : Int)] (by kernel_rfl) ⟨rfl, rfl, trivial⟩
    · simp only [Bool.or_eq_false_iff, Bool.not_eq_false', decide_eq_false_iff_not] at hc2
      have e : atL l p d = ((isort (keysL l)).filter (fun k => decide (lastP (untilL l d) k = p)), 0) := by
        rw [at_eq l p d hc2.1.1.2, atL, if_neg (by simp [hc]), if_pos]
        refine ⟨hc2.1.1.1, hc2.1.1.2, ?_⟩
        simp only [okDay, Bool.and_eq_true, decide_eq_true_eq]
        omega
      rw [e, e2]
      show Good _ _ _
      generalize isort (keysL l) = S at *
      have hsel : ∀ k, k < S.length → (S.take (k + 1)).filter (fun k => decide (lastP (untilL l d) k = p)) = if lastP (untilL l d) (S.getD k 0) = p then (S.take k).filter (fun k => decide (lastP (untilL l d) k = p)) ++ [S.getD k 0] else (S.take k).filter (fun k => decide (lastP (untilL l d) k = p)) := by
        intro k hk
        rw [take_snoc S 0 k hk, List.filter_append]
        generalize S.getD k 0 = x
        by_cases h : lastP (untilL l d) x = p <;> simp [h]
      have hfl : ∀ k, ((S.take k).filter (fun k => decide (lastP (untilL l d) k = p))).length ≤ 1024 := fun k => by
        have h1 := List.length_filter_le (fun k => decide (lastP (untilL l d) k = p)) (S.take k)
        have h2 := List.length_take_le' k S
        omega
      refine good_run 15 (obs := []) (by kernel_rfl) trivial ?_
      refine good_loopJ (fun k : Nat => ⟨[(39, .sv (.int .i64 (k))), (10, .own 1), (38, LV.sv (SV.int IntKind.i64 (↑(List.length (S, (0 : Int)).fst) : Int))), (37, LV.sv (SV.lst (1 : Nat) (List.length (S, (0 : Int)).fst) fun i => [SV.int IntKind.i64 (List.getD (S, (0 : Int)).fst i (0 : Int))])), (4, LV.ptr (0 : Nat) (0 : Nat)), (0, LV.sv (SV.lst (6 : Nat) (List.length l) fun i => Move.cells (List.getD l i default))), (2, LV.sv (SV.int IntKind.i64 d))], [Blk.cells (24 : Nat) true [SV.int IntKind.i64 p.Kind, SV.int IntKind.i64 p.Of], .row 3 1 ((S.take k).filter (fun k => decide (lastP (untilL l d) k = p))).length true fun i => [.int .i64 (((S.take k).filter (fun k => decide (lastP (untilL l d) k = p))).getD i 0)]]⟩) (fun k => k ≤ S.length) (fun k => S.length - k) (0) [p.Kind = p.Kind, p.Of = p.Of, (0 : Nat) = (0 : Nat), (0 : Int) = (0 : Int), (↑(List.length (S, (0 : Int)).fst) : Int) = (↑(List.length (S, (0 : Int)).fst) : Int), List.length (S, (0 : Int)).fst = List.length (S, (0 : Int)).fst ∧ ∀ (i : Nat), i < List.length (S, (0 : Int)).fst → (fun i => [SV.int IntKind.i64 (List.getD (S, (0 : Int)).fst i (0 : Int))]) i = (fun i => [SV.int IntKind.i64 (List.getD (S, (0 : Int)).fst i (0 : Int))]) i, List.length l = List.length l ∧ ∀ (i : Nat), i < List.length l → (fun i => Move.cells (List.getD l i default)) i = (fun i => Move.cells (List.getD l i default)) i, d = d] (by kernel_rfl) (by kernel_rfl) ⟨rfl, rfl, rfl, rfl, rfl, ⟨rfl, fun _ _ => rfl⟩, ⟨rfl, fun _ _ => rfl⟩, rfl, trivial⟩ (by omega) ?_
      intro k hk
      have hflk := hfl k
      refine good_run 6 (obs := []) (by kernel_rfl) trivial ?_
      refine good_cond (decide ((↑k : Int) < (↑(List.length (S, (0 : Int)).fst) : Int))) (by kernel_rfl) (fun hc3 => ?_) (fun hc3 => ?_)
      · have hlt : k < S.length := by simp only [decide_eq_true_eq] at hc3; omega
        have hsk := hsel k hlt
        refine good_run 14 (obs := [(1 : Nat) = (1 : Nat) ∧ (0 : Int) ≤ (↑k : Int) ∧ (↑k : Int) < (↑(List.length (S, (0 : Int)).fst) : Int)]) (by kernel_rfl) (by (first | omega | assumption | exact ⟨rfl, trivial⟩ | simp only [AllP, inK_iff, roomOK_iff, decide_eq_true_eq, Bool.and_eq_true, Bool.or_eq_true, Bool.not_eq_true', decide_eq_false_iff_not, and_true, true_and]; (first | omega | (and_intros <;> intros <;> (try and_intros) <;> first | omega | assumption | exact trivial)))) ?_
        refine good_call (c := True) (by kernel_rfl) (fun _ => SVles.refl _) (fun _ => s41 (l) (d)) (by kernel_rfl) ?_
        refine good_run 1 (obs := []) (by kernel_rfl) trivial ?_
        refine good_call (c := True) (by kernel_rfl) (fun _ => SVles.refl _) (fun _ => s40 (untilL l d) (List.getD (S, (0 : Int)).fst k (0 : Int))) (by kernel_rfl) ?_
        refine good_run 4 (obs := [True → (0 : Nat) + (2 : Nat) ≤ (2 : Nat), True → EqOK Try.prog (24 : TypeId) (2 : Nat) ∧ (2 : Nat) = (2 : Nat)]) (by kernel_rfl) (by (first | omega | assumption | exact ⟨rfl, trivial⟩ | simp only [AllP, inK_iff, roomOK_iff, decide_eq_true_eq, Bool.and_eq_true, Bool.or_eq_true, Bool.not_eq_true', decide_eq_false_iff_not, and_true, true_and]; (first | omega | (and_intros <;> intros <;> (try and_intros) <;> first | omega | assumption | exact trivial)))) ?_
        refine good_cond (false ^^ decide ([(lastP (untilL l d) (List.getD (S, (0 : Int)).fst k (0 : Int))).Kind, (lastP (untilL l d) (List.getD (S, (0 : Int)).fst k (0 : Int))).Of] = [p.Kind, p.Of])) (by kernel_rfl) (fun hc4 => ?_) (fun hc4 => ?_)
        · have hq : lastP (untilL l d) (S.getD k 0) = p := (place_ints _ _).1 (by simpa using hc4)
          rw [if_pos hq] at hsk
          refine good_run 14 (obs := [(3 : Nat) = (3 : Nat) ∧ (1 : Nat) = (1 : Nat) ∧ (1 : Nat) = (1 : Nat) ∧ roomOK (List.length (List.filter (fun k => decide (lastP (untilL l d) k = p)) (List.take k S)) + (1 : Nat)) (8 : Nat), InK IntKind.i64 ((↑k : Int) + (1 : Int))]) (by kernel_rfl) (by (first | omega | assumption | exact ⟨rfl, trivial⟩ | simp only [AllP, inK_iff, roomOK_iff, decide_eq_true_eq, Bool.and_eq_true, Bool.or_eq_true, Bool.not_eq_true', decide_eq_false_iff_not, and_true, true_and]; (first | omega | (and_intros <;> intros <;> (try and_intros) <;> first | omega | assumption | exact trivial)))) ?_
          refine good_backJ (k + 1) [p.Kind = p.Kind, p.Of = p.Of, List.length (List.filter (fun k => decide (lastP (untilL l d) k = p)) (List.take k S)) + (1 : Nat) = List.length (List.filter (fun k => decide (lastP (untilL l d) k = p)) (List.take (k + (1 : Nat)) S)) ∧ ∀ (i : Nat), i < List.length (List.filter (fun k => decide (lastP (untilL l d) k = p)) (List.take k S)) + (1 : Nat) → joinGet (List.length (List.filter (fun k => decide (lastP (untilL l d) k = p)) (List.take k S))) (fun i => [SV.int IntKind.i64 (List.getD (List.filter (fun k => decide (lastP (untilL l d) k = p)) (List.take k S)) i (0 : Int))]) (cutRows (1 : Nat) [SV.int IntKind.i64 (List.getD (S, (0 : Int)).fst k (0 : Int))]) i = (fun i => [SV.int IntKind.i64 (List.getD (List.filter (fun k => decide (lastP (untilL l d) k = p)) (List.take (k + (1 : Nat)) S)) i (0 : Int))]) i, (↑k : Int) + (1 : Int) = (↑(k + (1 : Nat)) : Int), (↑(List.length (S, (0 : Int)).fst) : Int) = (↑(List.length (S, (0 : Int)).fst) : Int), List.length (S, (0 : Int)).fst = List.length (S, (0 : Int)).fst ∧ ∀ (i : Nat), i < List.length (S, (0 : Int)).fst → (fun i => [SV.int IntKind.i64 (List.getD (S, (0 : Int)).fst i (0 : Int))]) i = (fun i => [SV.int IntKind.i64 (List.getD (S, (0 : Int)).fst i (0 : Int))]) i, List.length l = List.length l ∧ ∀ (i : Nat), i < List.length l → (fun i => Move.cells (List.getD l i default)) i = (fun i => Move.cells (List.getD l i default)) i, d = d] (by kernel_rfl) (by kernel_rfl) ⟨rfl, rfl, ?_, (by omega), rfl, ⟨rfl, fun _ _ => rfl⟩, ⟨rfl, fun _ _ => rfl⟩, rfl, trivial⟩ (by omega) (by show _ < _; omega)
          rw [hsk]
          exact row_snoc' (fun n => [SV.int .i64 n]) 0 _ (S.getD k 0) 1 rfl
        · have hq : ¬ lastP (untilL l d) (S.getD k 0) = p := fun h => by rw [h] at hc4; simp at hc4
          rw [if_neg hq] at hsk
          refine good_run 7 (obs := [InK IntKind.i64 ((↑k : Int) + (1 : Int))]) (by kernel_rfl) (by (first | omega | assumption | exact ⟨rfl, trivial⟩ | simp only [AllP, inK_iff, roomOK_iff, decide_eq_true_eq, Bool.and_eq_true, Bool.or_eq_true, Bool.not_eq_true', decide_eq_false_iff_not, and_true, true_and]; (first | omega | (and_intros <;> intros <;> (try and_intros) <;> first | omega | assumption | exact trivial)))) ?_
          refine good_backJ (k + 1) [p.Kind = p.Kind, p.Of = p.Of, List.length (List.filter (fun k => decide (lastP (untilL l d) k = p)) (List.take k S)) = List.length (List.filter (fun k => decide (lastP (untilL l d) k = p)) (List.take (k + (1 : Nat)) S)) ∧ ∀ (i : Nat), i < List.length (List.filter (fun k => decide (lastP (untilL l d) k = p)) (List.take k S)) → (fun i => [SV.int IntKind.i64 (List.getD (List.filter (fun k => decide (lastP (untilL l d) k = p)) (List.take k S)) i (0 : Int))]) i = (fun i => [SV.int IntKind.i64 (List.getD (List.filter (fun k => decide (lastP (untilL l d) k = p)) (List.take (k + (1 : Nat)) S)) i (0 : Int))]) i, (↑k : Int) + (1 : Int) = (↑(k + (1 : Nat)) : Int), (↑(List.length (S, (0 : Int)).fst) : Int) = (↑(List.length (S, (0 : Int)).fst) : Int), List.length (S, (0 : Int)).fst = List.length (S, (0 : Int)).fst ∧ ∀ (i : Nat), i < List.length (S, (0 : Int)).fst → (fun i => [SV.int IntKind.i64 (List.getD (S, (0 : Int)).fst i (0 : Int))]) i = (fun i => [SV.int IntKind.i64 (List.getD (S, (0 : Int)).fst i (0 : Int))]) i, List.length l = List.length l ∧ ∀ (i : Nat), i < List.length l → (fun i => Move.cells (List.getD l i default)) i = (fun i => Move.cells (List.getD l i default)) i, d = d] (by kernel_rfl) (by kernel_rfl) ⟨rfl, rfl, ?_, (by omega), rfl, ⟨rfl, fun _ _ => rfl⟩, ⟨rfl, fun _ _ => rfl⟩, rfl, trivial⟩ (by omega) (by show _ < _; omega)
          rw [hsk]
          exact ⟨rfl, fun _ _ => rfl⟩
      · have hge : k = S.length := by simp only [decide_eq_false_iff_not] at hc3; omega
        subst hge
        rw [List.take_length]
        refine good_run 2 (obs := []) (by kernel_rfl) trivial ?_
        refine good_leaveJ (by kernel_rfl) ?_
        refine good_run 9 (obs := []) (by kernel_rfl) trivial ?_
        refine good_fin [List.length (List.filter (fun k => decide (lastP (untilL l d) k = p)) S) = List.length (List.filter (fun k => decide (lastP (untilL l d) k = p)) S, (0 : Int)).fst ∧ ∀ (i : Nat), i < List.length (List.filter (fun k => decide (lastP (untilL l d) k = p)) S) → (fun i => [SV.int IntKind.i64 (List.getD (List.filter (fun k => decide (lastP (untilL l d) k = p)) S) i (0 : Int))]) i = (fun i => [SV.int IntKind.i64 (List.getD (List.filter (fun k => decide (lastP (untilL l d) k = p)) S, (0 : Int)).fst i (0 : Int))]) i, (0 : Int) = (0 : Int)] (by kernel_rfl) ⟨⟨rfl, fun _ _ => rfl⟩, rfl, trivial⟩
theorem s25 (l : List Move) (b : Int) : Spec Try.prog 25 [moves l, .int .i64 b] (.tup [moves (histF l b).1, .int .i64 (histF l b).2]) := by
  refine spec_of_good mixed Try.func25 F25_ok (by kernel_rfl) ?_
  refine good_run 10 (obs := []) (by kernel_rfl) trivial ?_
  refine good_call (c := True) (by kernel_rfl) (fun _ => SVles.refl _) (fun _ => s16 (l)) (by kernel_rfl) ?_
  refine good_run 3 (obs := []) (by kernel_rfl) trivial ?_
  refine good_cond (!decide (checkL l = (0 : Int))) (by kernel_rfl) (fun hc1 => ?_) (fun hc1 => ?_)
  · have e : histF l b = ([], 1) := if_pos (by simpa using hc1)
    rw [e]
    refine good_run 8 (obs := []) (by kernel_rfl) trivial ?_
    refine good_fin [(0 : Nat) = (0 : Nat), (1 : Int) = (1 : Int)] (by kernel_rfl) ⟨rfl, rfl, trivial⟩
  · have hc : checkL l = 0 := by simpa using hc1
    have hll := ((checkL_iff l).1 hc).1
    refine good_run 12 (obs := []) (by kernel_rfl) trivial ?_
    refine good_cond (decide (b < (1 : Int)) || decide ((1073741824 : Int) < b)) (by kernel_rfl) (fun hc2 => ?_) (fun hc2 => ?_)
    · have e : histF l b = ([], 2) := by
        rw [histF, if_neg (by simp [hc]), if_neg]
        simp only [Bool.or_eq_true, decide_eq_true_eq] at hc2
        simp only [okId, Bool.and_eq_true, decide_eq_true_eq]
        omega
      rw [e]
      refine good_run 8 (obs := []) (by kernel_rfl) trivial ?_
      refine good_fin [(0 : Nat) = (0 : Nat), (2 : Int) = (2 : Int)] (by kernel_rfl) ⟨rfl, rfl, trivial⟩
    · have e : histF l b = (histL l b, 0) := by
        rw [histF, if_neg (by simp [hc]), if_pos]
        simp only [Bool.or_eq_false_iff, decide_eq_false_iff_not] at hc2
        simp only [okId, Bool.and_eq_true, decide_eq_true_eq]
        omega
      rw [e]
      have hsel : ∀ k, k < l.length → histL (l.take (k + 1)) b = if (l.getD k default).Box = b then histL (l.take k) b ++ [l.getD k default] else histL (l.take k) b := by
        intro k hk
        unfold histL
        rw [take_snoc l default k hk, List.filter_append]
        generalize l.getD k default = x
        by_cases h : x.Box = b <;> simp [h]
      have hfl : ∀ k, (histL (l.take k) b).length ≤ 1024 := fun k => by
        have h1 : (histL (l.take k) b).length ≤ (l.take k).length := List.length_filter_le _ _
        have h2 := List.length_take_le' k l
        omega
      refine good_run 15 (obs := []) (by kernel_rfl) trivial ?_
      refine good_loopJ (fun k : Nat => ⟨[(20, .sv (.int .i64 (k))), (6, .own 0), (19, LV.sv (SV.int IntKind.i64 (↑(List.length l) : Int))), (18, LV.sv (SV.lst (6 : Nat) (List.length l) fun i => Move.cells (List.getD l i default))), (1, LV.sv (SV.int IntKind.i64 b))], [.row 26 6 (histL (l.take k) b).length true fun i => ((histL (l.take k) b).getD i default).cells]⟩) (fun k => k ≤ l.length) (fun k => l.length - k) (0) [(0 : Nat) = (0 : Nat), (0 : Int) = (0 : Int), (↑(List.length l) : Int) = (↑(List.length l) : Int), List.length l = List.length l ∧ ∀ (i : Nat), i < List.length l → (fun i => Move.cells (List.getD l i default)) i = (fun i => Move.cells (List.getD l i default)) i, b = b] (by kernel_rfl) (by kernel_rfl) ⟨rfl, rfl, rfl, ⟨rfl, fun _ _ => rfl⟩, rfl, trivial⟩ (by omega) ?_
      intro k hk
      have hflk := hfl k
      refine good_run 6 (obs := []) (by kernel_rfl) trivial ?_
      refine good_cond (decide ((↑k : Int) < (↑(List.length l) : Int))) (by kernel_rfl) (fun hc3 => ?_) (fun hc3 => ?_)
      · have hlt : k < l.length := by simp only [decide_eq_true_eq] at hc3; omega
        have hsk := hsel k hlt
        refine good_run 19 (obs := [(6 : Nat) = (6 : Nat) ∧ (0 : Int) ≤ (↑k : Int) ∧ (↑k : Int) < (↑(List.length l) : Int), (0 : Nat) + (6 : Nat) ≤ (6 : Nat), (6 : Nat) = (6 : Nat) ∧ (0 : Nat) + (6 : Nat) ≤ (6 : Nat)]) (by kernel_rfl) (by (first | omega | assumption | exact ⟨rfl, trivial⟩ | simp only [AllP, inK_iff, roomOK_iff, decide_eq_true_eq, Bool.and_eq_true, Bool.or_eq_true, Bool.not_eq_true', decide_eq_false_iff_not, and_true, true_and]; (first | omega | (and_intros <;> intros <;> (try and_intros) <;> first | omega | assumption | exact trivial)))) ?_
        refine good_cond (decide ((List.getD l k default).Box = b)) (by kernel_rfl) (fun hc4 => ?_) (fun hc4 => ?_)
        · rw [if_pos (by simpa using hc4)] at hsk
          refine good_run 14 (obs := [(0 : Nat) + (6 : Nat) ≤ (6 : Nat), (26 : Nat) = (26 : Nat) ∧ (6 : Nat) = (6 : Nat) ∧ (6 : Nat) = (6 : Nat) ∧ roomOK (List.length (histL (List.take k l) b) + (1 : Nat)) (48 : Nat), InK IntKind.i64 ((↑k : Int) + (1 : Int))]) (by kernel_rfl) (by (first | omega | assumption | exact ⟨rfl, trivial⟩ | simp only [AllP, inK_iff, roomOK_iff, decide_eq_true_eq, Bool.and_eq_true, Bool.or_eq_true, Bool.not_eq_true', decide_eq_false_iff_not, and_true, true_and]; (first | omega | (and_intros <;> intros <;> (try and_intros) <;> first | omega | assumption | exact trivial)))) ?_
          refine good_backJ (k + 1) [List.length (histL (List.take k l) b) + (1 : Nat) = List.length (histL (List.take (k + (1 : Nat)) l) b) ∧ ∀ (i : Nat), i < List.length (histL (List.take k l) b) + (1 : Nat) → joinGet (List.length (histL (List.take k l) b)) (fun i => Move.cells (List.getD (histL (List.take k l) b) i default)) (cutRows (6 : Nat) [SV.int IntKind.i64 (List.getD l k default).Day, SV.int IntKind.i64 (List.getD l k default).Box, SV.int IntKind.i64 (List.getD l k default).From.Kind, SV.int IntKind.i64 (List.getD l k default).From.Of, SV.int IntKind.i64 (List.getD l k default).To.Kind, SV.int IntKind.i64 (List.getD l k default).To.Of]) i = (fun i => Move.cells (List.getD (histL (List.take (k + (1 : Nat)) l) b) i default)) i, (↑k : Int) + (1 : Int) = (↑(k + (1 : Nat)) : Int), (↑(List.length l) : Int) = (↑(List.length l) : Int), List.length l = List.length l ∧ ∀ (i : Nat), i < List.length l → (fun i => Move.cells (List.getD l i default)) i = (fun i => Move.cells (List.getD l i default)) i, b = b] (by kernel_rfl) (by kernel_rfl) ⟨?_, (by omega), rfl, ⟨rfl, fun _ _ => rfl⟩, rfl, trivial⟩ (by omega) (by show _ < _; omega)
          rw [hsk]
          exact row_snoc' Move.cells default _ (l.getD k default) 6 rfl
        · rw [if_neg (by simpa using hc4)] at hsk
          refine good_run 7 (obs := [InK IntKind.i64 ((↑k : Int) + (1 : Int))]) (by kernel_rfl) (by (first | omega | assumption | exact ⟨rfl, trivial⟩ | simp only [AllP, inK_iff, roomOK_iff, decide_eq_true_eq, Bool.and_eq_true, Bool.or_eq_true, Bool.not_eq_true', decide_eq_false_iff_not, and_true, true_and]; (first | omega | (and_intros <;> intros <;> (try and_intros) <;> first | omega | assumption | exact trivial)))) ?_
          refine good_backJ (k + 1) [List.length (histL (List.take k l) b) = List.length (histL (List.take (k + (1 : Nat)) l) b) ∧ ∀ (i : Nat), i < List.length (histL (List.take k l) b) → (fun i => Move.cells (List.getD (histL (List.take k l) b) i default)) i = (fun i => Move.cells (List.getD (histL (List.take (k + (1 : Nat)) l) b) i default)) i, (↑k : Int) + (1 : Int) = (↑(k + (1 : Nat)) : Int), (↑(List.length l) : Int) = (↑(List.length l) : Int), List.length l = List.length l ∧ ∀ (i : Nat), i < List.length l → (fun i => Move.cells (List.getD l i default)) i = (fun i => Move.cells (List.getD l i default)) i, b = b] (by kernel_rfl) (by kernel_rfl) ⟨?_, (by omega), rfl, ⟨rfl, fun _ _ => rfl⟩, rfl, trivial⟩ (by omega) (by show _ < _; omega)
          rw [hsk]
          exact ⟨rfl, fun _ _ => rfl⟩
      · have hge : k = l.length := by simp only [decide_eq_false_iff_not] at hc3; omega
        subst hge
        rw [List.take_length]
        refine good_run 2 (obs := []) (by kernel_rfl) trivial ?_
        refine good_leaveJ (by kernel_rfl) ?_
        refine good_run 9 (obs := []) (by kernel_rfl) trivial ?_
        refine good_fin [List.length (histL l b) = List.length (histL l b, (0 : Int)).fst ∧ ∀ (i : Nat), i < List.length (histL l b) → (fun i => Move.cells (List.getD (histL l b) i default)) i = (fun i => Move.cells (List.getD (histL l b, (0 : Int)).fst i default)) i, (0 : Int) = (0 : Int)] (by kernel_rfl) ⟨⟨rfl, fun _ _ => rfl⟩, rfl, trivial⟩
end Go.Sx.T
