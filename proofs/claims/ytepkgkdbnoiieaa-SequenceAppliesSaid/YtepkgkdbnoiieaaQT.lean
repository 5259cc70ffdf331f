/- Contracts of functions of the program, each proved by running its code symbolically (QT). -/
import Derived.Test.YtepkgkdbnoiieaaQS
namespace Go.Sx.T
open Go Go.Proofs Go.Sx
set_option maxRecDepth 100000
set_option maxHeartbeats 8000000
set_option linter.unusedVariables false
set_option linter.unusedSimpArgs false
theorem stepX_len (m : Shift) (x : Int) : (stepX m x).length ≤ 2 := by
  unfold stepX
  rw [List.length_append]
  have : (if x = m.Before then [m.Number] else []).length ≤ 1 := by split <;> simp
  have : (if x ≠ m.Number then [x] else []).length ≤ 1 := by split <;> simp
  omega
theorem stepsX_len (m : Shift) : ∀ o : List Int, (stepsX m o).length ≤ 2 * o.length
  | [] => by simp [stepsX]
  | x :: r => by
    have := stepsX_len m r
    have := stepX_len m x
    unfold stepsX at *
    rw [List.flatMap_cons, List.length_append, List.length_cons]
    omega
theorem stepsX_take (m : Shift) (o : List Int) (j : Nat) (h : o.length ≤ 256) : (stepsX m (o.take j)).length ≤ 512 := by
  have := stepsX_len m (o.take j)
  rw [List.length_take] at this
  omega
theorem row_snoc2 {α : Type} (c : α → List SV) (d : α) (l : List α) (x y : α) (sz : Nat) (hx : (c x).length = sz) (hy : (c y).length = sz) : l.length + 1 + 1 = (l ++ [x] ++ [y]).length ∧ ∀ i, i < l.length + 1 + 1 → joinGet (l.length + 1) (joinGet l.length (fun i => c (l.getD i d)) (cutRows sz (c x))) (cutRows sz (c y)) i = c ((l ++ [x] ++ [y]).getD i d) := by
  have h1 := row_snoc' c d l x sz hx
  have h2 := row_snoc' c d (l ++ [x]) y sz hy
  refine ⟨by simp, fun i hi => ?_⟩
  rw [← h2.2 i (by simpa using hi)]
  unfold joinGet
  rw [show (l ++ [x]).length = l.length + 1 by simp]
  by_cases h : i < l.length + 1
  · rw [if_pos h, if_pos h]; exact h1.2 i h
  · rw [if_neg h, if_neg h]
theorem s28 (l : List Int) (ms : List Shift) (hl : l.length ≤ 100000) : Spec Try.prog 28 [ints l, shifts ms] (.tup [ints (refApply l ms).1, .int .i64 (refApply l ms).2]) := by
  refine spec_len 1 rfl (hasBody_of_slim Try.func28 F28_ok) fun hlen => ?_
  refine spec_of_good mixed Try.func28 F28_ok (by kernel_rfl) ?_
  have h20 := s21 l hl
  refine good_run 10 (obs := []) (by kernel_rfl) trivial ?_
  refine good_call (c := True) (by kernel_rfl) (fun _ => SVles.refl _) (fun _ => s21 (l) (by (first | omega | assumption | exact ⟨rfl, trivial⟩ | simp only [AllP, inK_iff, roomOK_iff, decide_eq_true_eq, Bool.and_eq_true, Bool.or_eq_true, Bool.not_eq_true', decide_eq_false_iff_not, and_true, true_and]; (first | omega | (and_intros <;> intros <;> (try and_intros) <;> first | omega | assumption | exact trivial))))) (by kernel_rfl) ?_
  refine good_run 9 (obs := []) (by kernel_rfl) trivial ?_
  refine good_cond (!decide (chkL l = (0 : Int))) (by kernel_rfl) (fun hc1 => ?_) (fun hc1 => ?_)
  · have e : refApply l ms = ([], chkL l) := if_neg (by simpa using hc1)
    rw [e]
    refine good_run 9 (obs := []) (by kernel_rfl) trivial ?_
    refine good_fin [(0 : Nat) = (0 : Nat), chkL l = chkL l] (by kernel_rfl) ⟨rfl, rfl, trivial⟩
  · have hc : chkL l = 0 := by simpa using hc1
    have e : refApply l ms = if 1024 < ms.length then ([], 8) else refF l l ms := if_pos hc
    obtain ⟨h1, h2, h3, h4⟩ := chk_pos hc
    rw [e]
    refine good_run 9 (obs := []) (by kernel_rfl) trivial ?_
    refine good_cond (decide ((1024 : Int) < (↑(List.length ms) : Int))) (by kernel_rfl) (fun hc2 => ?_) (fun hc2 => ?_)
    · rw [if_pos (by simp only [decide_eq_true_eq] at hc2; omega)]
      refine good_run 8 (obs := []) (by kernel_rfl) trivial ?_
      refine good_fin [(0 : Nat) = (0 : Nat), (8 : Int) = (8 : Int)] (by kernel_rfl) ⟨rfl, rfl, trivial⟩
    · have hms : ms.length ≤ 1024 := by simp only [decide_eq_false_iff_not] at hc2; omega
      rw [if_neg (by omega)]
      refine good_run 5 (obs := []) (by kernel_rfl) trivial ?_
      refine good_run 1 (obs := [(3 : Nat) = (3 : Nat) ∧ (1 : Nat) = (1 : Nat) ∧ (1 : Nat) = (1 : Nat) ∧ roomOK ((0 : Nat) + List.length l) (8 : Nat)]) (by kernel_rfl) (by (first | omega | assumption | exact ⟨rfl, trivial⟩ | simp only [AllP, inK_iff, roomOK_iff, decide_eq_true_eq, Bool.and_eq_true, Bool.or_eq_true, Bool.not_eq_true', decide_eq_false_iff_not, and_true, true_and]; (first | omega | (and_intros <;> intros <;> (try and_intros) <;> first | omega | assumption | exact trivial)))) ?_
      refine good_part 22 ((0 : Nat)) ((1 : Nat)) ((0 : Nat) + List.length l) (joinGet (0 : Nat) (cutRows (1 : Nat) []) fun i => [SV.int IntKind.i64 (List.getD l i (0 : Int))]) (by kernel_rfl) ?_
      refine good_run 10 (obs := []) (by kernel_rfl) trivial ?_
      refine good_loopJ (fun q : ASt => ⟨[(8, .sv (.int .i64 (q.k))), (7, .sv (ints q.o)), (0, LV.sv (SV.lst (1 : Nat) (List.length l) fun i => [SV.int IntKind.i64 (List.getD l i (0 : Int))])), (1, LV.sv (SV.lst (2 : Nat) (List.length ms) fun i => Shift.cells (List.getD ms i default)))], []⟩) (fun q => q.k ≤ ms.length ∧ q.o.Perm l ∧ refF l q.o (ms.drop q.k) = refF l l ms) (fun q => ms.length - q.k) (mkA 0 l) [(0 : Int) = (↑(mkA (0 : Nat) l).k : Int), (0 : Nat) + List.length l = List.length (mkA (0 : Nat) l).o ∧ ∀ (i : Nat), i < (0 : Nat) + List.length l → joinGet (0 : Nat) (cutRows (1 : Nat) []) (fun i => [SV.int IntKind.i64 (List.getD l i (0 : Int))]) i = (fun i => [SV.int IntKind.i64 (List.getD (mkA (0 : Nat) l).o i (0 : Int))]) i, List.length l = List.length l ∧ ∀ (i : Nat), i < List.length l → (fun i => [SV.int IntKind.i64 (List.getD l i (0 : Int))]) i = (fun i => [SV.int IntKind.i64 (List.getD l i (0 : Int))]) i, List.length ms = List.length ms ∧ ∀ (i : Nat), i < List.length ms → (fun i => Shift.cells (List.getD ms i default)) i = (fun i => Shift.cells (List.getD ms i default)) i] (by kernel_rfl) (by kernel_rfl) ⟨(by rfl), ?_, ⟨rfl, fun _ _ => rfl⟩, ⟨rfl, fun _ _ => rfl⟩, trivial⟩ ?_ ?_
      · exact ⟨Nat.zero_add _, fun i hi => by rw [joinGet_zero]; rfl⟩
      · exact ⟨Nat.zero_le _, List.Perm.refl _, rfl⟩
      rintro q ⟨hk, hp, he⟩
      have hol := hp.length_eq
      refine good_run 9 (obs := []) (by kernel_rfl) trivial ?_
      refine good_cond (decide ((↑q.k : Int) < (↑(List.length ms) : Int))) (by kernel_rfl) (fun hc3 => ?_) (fun hc3 => ?_)
      · have hlt : q.k < ms.length := by simp only [decide_eq_true_eq] at hc3; omega
        rw [drop_getD (d := default) ms q.k hlt, refF] at he
        refine good_run 19 (obs := [(2 : Nat) = (2 : Nat) ∧ (0 : Int) ≤ (↑q.k : Int) ∧ (↑q.k : Int) < (↑(List.length ms) : Int), (0 : Nat) + (2 : Nat) ≤ (2 : Nat), (2 : Nat) = (2 : Nat) ∧ (0 : Nat) + (2 : Nat) ≤ (2 : Nat)]) (by kernel_rfl) (by (first | omega | assumption | exact ⟨rfl, trivial⟩ | simp only [AllP, inK_iff, roomOK_iff, decide_eq_true_eq, Bool.and_eq_true, Bool.or_eq_true, Bool.not_eq_true', decide_eq_false_iff_not, and_true, true_and]; (first | omega | (and_intros <;> intros <;> (try and_intros) <;> first | omega | assumption | exact trivial)))) ?_
        refine good_call (c := True) (by kernel_rfl) (fun _ => SVles.refl _) (fun _ => s48 (l) ((List.getD ms q.k default).Number)) (by kernel_rfl) ?_
        refine good_run 10 (obs := []) (by kernel_rfl) trivial ?_
        refine good_call (c := (!decide ((List.getD ms q.k default).Before = (0 : Int))) = true ∧ (!decide ((List.getD ms q.k default).Number ∈ l)) = false ∧ True) (by kernel_rfl) (fun _ => SVles.refl _) (fun _ => s48 (l) ((List.getD ms q.k default).Before)) (by kernel_rfl) ?_
        refine good_run 6 (obs := []) (by kernel_rfl) trivial ?_
        refine good_cond (!decide ((List.getD ms q.k default).Number ∈ l) || !decide ((List.getD ms q.k default).Before = (0 : Int)) && !decide ((List.getD ms q.k default).Before ∈ l)) (by kernel_rfl) (fun hc4 => ?_) (fun hc4 => ?_)
        · have ha : appOK l (ms.getD q.k default) = 7 := by
            unfold appOK
            rw [if_pos]
            simpa using hc4
          rw [if_neg (by rw [ha]; decide), ha] at he
          rw [← he]
          refine good_run 10 (obs := []) (by kernel_rfl) trivial ?_
          refine good_leaveJ (by kernel_rfl) ?_
          refine good_run 2 (obs := []) (by kernel_rfl) trivial ?_
          refine good_fin [(0 : Nat) = (0 : Nat), (7 : Int) = (7 : Int)] (by kernel_rfl) ⟨rfl, rfl, trivial⟩
        · have hn : ¬ ((ms.getD q.k default).Number ∉ l ∨ (ms.getD q.k default).Before ≠ 0 ∧ (ms.getD q.k default).Before ∉ l) := by
            intro h
            have h2 : (!decide ((ms.getD q.k default).Number ∈ l) || !decide ((ms.getD q.k default).Before = 0) && !decide ((ms.getD q.k default).Before ∈ l)) = true := by simpa using h
            rw [h2] at hc4
            cases hc4
          refine good_run 11 (obs := []) (by kernel_rfl) trivial ?_
          refine good_cond (decide ((List.getD ms q.k default).Number = (List.getD ms q.k default).Before)) (by kernel_rfl) (fun hc5 => ?_) (fun hc5 => ?_)
          · have ha : appOK l (ms.getD q.k default) = 1 := by
              unfold appOK
              rw [if_neg hn, if_pos (by simpa using hc5)]
            rw [if_neg (by rw [ha]; decide), ha] at he
            rw [← he]
            refine good_run 10 (obs := []) (by kernel_rfl) trivial ?_
            refine good_leaveJ (by kernel_rfl) ?_
            refine good_run 2 (obs := []) (by kernel_rfl) trivial ?_
            refine good_fin [(0 : Nat) = (0 : Nat), (1 : Int) = (1 : Int)] (by kernel_rfl) ⟨rfl, rfl, trivial⟩
          · have hnb : (ms.getD q.k default).Number ≠ (ms.getD q.k default).Before := by simpa using hc5
            have ha : appOK l (ms.getD q.k default) = 0 := by
              unfold appOK
              rw [if_neg hn, if_neg (by simpa using hc5)]
            rw [if_pos ha] at he
            have hno : q.o.Nodup := hp.nodup_iff.2 h2
            have ha' : appOK q.o (ms.getD q.k default) = 0 := by rw [appOK_perm hp]; exact ha
            have hperm : (refStep q.o (ms.getD q.k default)).Perm l := by
              rw [refStep_eq q.o _ hno (fun h' => by have := h4 0 (hp.mem_iff.1 h'); omega) ha']
              exact (appStep_perm q.o _ hno (appOK_zero.1 ha').1).trans hp
            have hsl := stepsX_take (ms.getD q.k default) q.o
            refine good_run 13 (obs := []) (by kernel_rfl) trivial ?_
            refine good_loopJ (fun j : Nat => ⟨[(11, .sv (.int .i64 (j))), (10, .own 1), (9, LV.ptr (0 : Nat) (0 : Nat)), (8, LV.sv (SV.int IntKind.i64 (↑q.k : Int))), (7, LV.sv (SV.lst (1 : Nat) (List.length q.o) fun i => [SV.int IntKind.i64 (List.getD q.o i (0 : Int))])), (0, LV.sv (SV.lst (1 : Nat) (List.length l) fun i => [SV.int IntKind.i64 (List.getD l i (0 : Int))])), (1, LV.sv (SV.lst (2 : Nat) (List.length ms) fun i => Shift.cells (List.getD ms i default)))], [Blk.cells (40 : Nat) true [SV.int IntKind.i64 (List.getD ms q.k default).Number, SV.int IntKind.i64 (List.getD ms q.k default).Before], .row 3 1 (stepsX (ms.getD q.k default) (q.o.take j)).length true fun i => [.int .i64 ((stepsX (ms.getD q.k default) (q.o.take j)).getD i 0)]]⟩) (fun j => j ≤ q.o.length) (fun j => q.o.length - j) (0) [(List.getD ms q.k default).Number = (List.getD ms q.k default).Number, (List.getD ms q.k default).Before = (List.getD ms q.k default).Before, (0 : Nat) = (0 : Nat), (0 : Int) = (0 : Int), (↑q.k : Int) = (↑q.k : Int), List.length q.o = List.length q.o ∧ ∀ (i : Nat), i < List.length q.o → (fun i => [SV.int IntKind.i64 (List.getD q.o i (0 : Int))]) i = (fun i => [SV.int IntKind.i64 (List.getD q.o i (0 : Int))]) i, List.length l = List.length l ∧ ∀ (i : Nat), i < List.length l → (fun i => [SV.int IntKind.i64 (List.getD l i (0 : Int))]) i = (fun i => [SV.int IntKind.i64 (List.getD l i (0 : Int))]) i, List.length ms = List.length ms ∧ ∀ (i : Nat), i < List.length ms → (fun i => Shift.cells (List.getD ms i default)) i = (fun i => Shift.cells (List.getD ms i default)) i] (by kernel_rfl) (by kernel_rfl) ⟨rfl, rfl, rfl, rfl, rfl, ⟨rfl, fun _ _ => rfl⟩, ⟨rfl, fun _ _ => rfl⟩, ⟨rfl, fun _ _ => rfl⟩, trivial⟩ (by omega) ?_
            intro j hj
            have hsj := hsl j (by omega)
            refine good_run 9 (obs := []) (by kernel_rfl) trivial ?_
            refine good_cond (decide ((↑j : Int) < (↑(List.length q.o) : Int))) (by kernel_rfl) (fun hc6 => ?_) (fun hc6 => ?_)
            · have hjl : j < q.o.length := by simp only [decide_eq_true_eq] at hc6; omega
              have hsn := stepsX_snoc (ms.getD q.k default) q.o j hjl
              unfold stepX at hsn
              refine good_run 15 (obs := [True → (1 : Nat) = (1 : Nat) ∧ (0 : Int) ≤ (↑j : Int) ∧ (↑j : Int) < (↑(List.length q.o) : Int)]) (by kernel_rfl) (by (first | omega | assumption | exact ⟨rfl, trivial⟩ | simp only [AllP, inK_iff, roomOK_iff, decide_eq_true_eq, Bool.and_eq_true, Bool.or_eq_true, Bool.not_eq_true', decide_eq_false_iff_not, and_true, true_and]; (first | omega | (and_intros <;> intros <;> (try and_intros) <;> first | omega | assumption | exact trivial)))) ?_
              refine good_cond (decide (List.getD q.o j (0 : Int) = (List.getD ms q.k default).Before)) (by kernel_rfl) (fun hc7 => ?_) (fun hc7 => ?_)
              · have hb : q.o.getD j 0 = (ms.getD q.k default).Before := by simpa using hc7
                have hn2 : q.o.getD j 0 ≠ (ms.getD q.k default).Number := by omega
                rw [if_pos hb, if_pos hn2, ← List.append_assoc] at hsn
                refine good_run 20 (obs := [(3 : Nat) = (3 : Nat) ∧ (1 : Nat) = (1 : Nat) ∧ (1 : Nat) = (1 : Nat) ∧ roomOK (List.length (stepsX (List.getD ms q.k default) (List.take j q.o)) + (1 : Nat)) (8 : Nat), True → (1 : Nat) = (1 : Nat) ∧ (0 : Int) ≤ (↑j : Int) ∧ (↑j : Int) < (↑(List.length q.o) : Int)]) (by kernel_rfl) (by (first | omega | assumption | exact ⟨rfl, trivial⟩ | simp only [AllP, inK_iff, roomOK_iff, decide_eq_true_eq, Bool.and_eq_true, Bool.or_eq_true, Bool.not_eq_true', decide_eq_false_iff_not, and_true, true_and]; (first | omega | (and_intros <;> intros <;> (try and_intros) <;> first | omega | assumption | exact trivial)))) ?_
                refine good_cond (!decide (List.getD q.o j (0 : Int) = (List.getD ms q.k default).Number)) (by kernel_rfl) (fun hc8 => ?_) (fun hc8 => ?_)
                · refine good_run 18 (obs := [(1 : Nat) = (1 : Nat) ∧ (0 : Int) ≤ (↑j : Int) ∧ (↑j : Int) < (↑(List.length q.o) : Int), (3 : Nat) = (3 : Nat) ∧ (1 : Nat) = (1 : Nat) ∧ (1 : Nat) = (1 : Nat) ∧ roomOK (List.length (stepsX (List.getD ms q.k default) (List.take j q.o)) + (1 : Nat) + (1 : Nat)) (8 : Nat), InK IntKind.i64 ((↑j : Int) + (1 : Int))]) (by kernel_rfl) (by (first | omega | assumption | exact ⟨rfl, trivial⟩ | simp only [AllP, inK_iff, roomOK_iff, decide_eq_true_eq, Bool.and_eq_true, Bool.or_eq_true, Bool.not_eq_true', decide_eq_false_iff_not, and_true, true_and]; (first | omega | (and_intros <;> intros <;> (try and_intros) <;> first | omega | assumption | exact trivial)))) ?_
                  refine good_backJ (j + 1) [(List.getD ms q.k default).Number = (List.getD ms q.k default).Number, (List.getD ms q.k default).Before = (List.getD ms q.k default).Before, List.length (stepsX (List.getD ms q.k default) (List.take j q.o)) + (1 : Nat) + (1 : Nat) = List.length (stepsX (List.getD ms q.k default) (List.take (j + (1 : Nat)) q.o)) ∧ ∀ (i : Nat), i < List.length (stepsX (List.getD ms q.k default) (List.take j q.o)) + (1 : Nat) + (1 : Nat) → joinGet (List.length (stepsX (List.getD ms q.k default) (List.take j q.o)) + (1 : Nat)) (joinGet (List.length (stepsX (List.getD ms q.k default) (List.take j q.o))) (fun i => [SV.int IntKind.i64 (List.getD (stepsX (List.getD ms q.k default) (List.take j q.o)) i (0 : Int))]) (cutRows (1 : Nat) [SV.int IntKind.i64 (List.getD ms q.k default).Number])) (cutRows (1 : Nat) [SV.int IntKind.i64 (List.getD q.o j (0 : Int))]) i = (fun i => [SV.int IntKind.i64 (List.getD (stepsX (List.getD ms q.k default) (List.take (j + (1 : Nat)) q.o)) i (0 : Int))]) i, (↑j : Int) + (1 : Int) = (↑(j + (1 : Nat)) : Int), (↑q.k : Int) = (↑q.k : Int), List.length q.o = List.length q.o ∧ ∀ (i : Nat), i < List.length q.o → (fun i => [SV.int IntKind.i64 (List.getD q.o i (0 : Int))]) i = (fun i => [SV.int IntKind.i64 (List.getD q.o i (0 : Int))]) i, List.length l = List.length l ∧ ∀ (i : Nat), i < List.length l → (fun i => [SV.int IntKind.i64 (List.getD l i (0 : Int))]) i = (fun i => [SV.int IntKind.i64 (List.getD l i (0 : Int))]) i, List.length ms = List.length ms ∧ ∀ (i : Nat), i < List.length ms → (fun i => Shift.cells (List.getD ms i default)) i = (fun i => Shift.cells (List.getD ms i default)) i] (by kernel_rfl) (by kernel_rfl) ⟨rfl, rfl, ?_, (by omega), rfl, ⟨rfl, fun _ _ => rfl⟩, ⟨rfl, fun _ _ => rfl⟩, ⟨rfl, fun _ _ => rfl⟩, trivial⟩ (by omega) (by show _ < _; omega)
                  rw [hsn]
                  exact row_snoc2 (fun x => [SV.int .i64 x]) 0 _ _ _ 1 rfl rfl
                · exact absurd (by simpa using hc8) hn2
              · have hb : q.o.getD j 0 ≠ (ms.getD q.k default).Before := by simpa using hc7
                rw [if_neg hb, List.nil_append] at hsn
                refine good_run 12 (obs := [True → (1 : Nat) = (1 : Nat) ∧ (0 : Int) ≤ (↑j : Int) ∧ (↑j : Int) < (↑(List.length q.o) : Int)]) (by kernel_rfl) (by (first | omega | assumption | exact ⟨rfl, trivial⟩ | simp only [AllP, inK_iff, roomOK_iff, decide_eq_true_eq, Bool.and_eq_true, Bool.or_eq_true, Bool.not_eq_true', decide_eq_false_iff_not, and_true, true_and]; (first | omega | (and_intros <;> intros <;> (try and_intros) <;> first | omega | assumption | exact trivial)))) ?_
                refine good_cond (!decide (List.getD q.o j (0 : Int) = (List.getD ms q.k default).Number)) (by kernel_rfl) (fun hc8 => ?_) (fun hc8 => ?_)
                · have hn2 : q.o.getD j 0 ≠ (ms.getD q.k default).Number := by simpa using hc8
                  rw [if_pos hn2] at hsn
                  refine good_run 18 (obs := [(1 : Nat) = (1 : Nat) ∧ (0 : Int) ≤ (↑j : Int) ∧ (↑j : Int) < (↑(List.length q.o) : Int), (3 : Nat) = (3 : Nat) ∧ (1 : Nat) = (1 : Nat) ∧ (1 : Nat) = (1 : Nat) ∧ roomOK (List.length (stepsX (List.getD ms q.k default) (List.take j q.o)) + (1 : Nat)) (8 : Nat), InK IntKind.i64 ((↑j : Int) + (1 : Int))]) (by kernel_rfl) (by (first | omega | assumption | exact ⟨rfl, trivial⟩ | simp only [AllP, inK_iff, roomOK_iff, decide_eq_true_eq, Bool.and_eq_true, Bool.or_eq_true, Bool.not_eq_true', decide_eq_false_iff_not, and_true, true_and]; (first | omega | (and_intros <;> intros <;> (try and_intros) <;> first | omega | assumption | exact trivial)))) ?_
                  refine good_backJ (j + 1) [(List.getD ms q.k default).Number = (List.getD ms q.k default).Number, (List.getD ms q.k default).Before = (List.getD ms q.k default).Before, List.length (stepsX (List.getD ms q.k default) (List.take j q.o)) + (1 : Nat) = List.length (stepsX (List.getD ms q.k default) (List.take (j + (1 : Nat)) q.o)) ∧ ∀ (i : Nat), i < List.length (stepsX (List.getD ms q.k default) (List.take j q.o)) + (1 : Nat) → joinGet (List.length (stepsX (List.getD ms q.k default) (List.take j q.o))) (fun i => [SV.int IntKind.i64 (List.getD (stepsX (List.getD ms q.k default) (List.take j q.o)) i (0 : Int))]) (cutRows (1 : Nat) [SV.int IntKind.i64 (List.getD q.o j (0 : Int))]) i = (fun i => [SV.int IntKind.i64 (List.getD (stepsX (List.getD ms q.k default) (List.take (j + (1 : Nat)) q.o)) i (0 : Int))]) i, (↑j : Int) + (1 : Int) = (↑(j + (1 : Nat)) : Int), (↑q.k : Int) = (↑q.k : Int), List.length q.o = List.length q.o ∧ ∀ (i : Nat), i < List.length q.o → (fun i => [SV.int IntKind.i64 (List.getD q.o i (0 : Int))]) i = (fun i => [SV.int IntKind.i64 (List.getD q.o i (0 : Int))]) i, List.length l = List.length l ∧ ∀ (i : Nat), i < List.length l → (fun i => [SV.int IntKind.i64 (List.getD l i (0 : Int))]) i = (fun i => [SV.int IntKind.i64 (List.getD l i (0 : Int))]) i, List.length ms = List.length ms ∧ ∀ (i : Nat), i < List.length ms → (fun i => Shift.cells (List.getD ms i default)) i = (fun i => Shift.cells (List.getD ms i default)) i] (by kernel_rfl) (by kernel_rfl) ⟨rfl, rfl, ?_, (by omega), rfl, ⟨rfl, fun _ _ => rfl⟩, ⟨rfl, fun _ _ => rfl⟩, ⟨rfl, fun _ _ => rfl⟩, trivial⟩ (by omega) (by show _ < _; omega)
                  rw [hsn]
                  exact row_snoc' (fun x => [SV.int .i64 x]) 0 _ _ 1 rfl
                · have hn2 : ¬ q.o.getD j 0 ≠ (ms.getD q.k default).Number := by simpa using hc8
                  rw [if_neg hn2, List.append_nil] at hsn
                  refine good_run 8 (obs := [InK IntKind.i64 ((↑j : Int) + (1 : Int))]) (by kernel_rfl) (by (first | omega | assumption | exact ⟨rfl, trivial⟩ | simp only [AllP, inK_iff, roomOK_iff, decide_eq_true_eq, Bool.and_eq_true, Bool.or_eq_true, Bool.not_eq_true', decide_eq_false_iff_not, and_true, true_and]; (first | omega | (and_intros <;> intros <;> (try and_intros) <;> first | omega | assumption | exact trivial)))) ?_
                  refine good_backJ (j + 1) [(List.getD ms q.k default).Number = (List.getD ms q.k default).Number, (List.getD ms q.k default).Before = (List.getD ms q.k default).Before, List.length (stepsX (List.getD ms q.k default) (List.take j q.o)) = List.length (stepsX (List.getD ms q.k default) (List.take (j + (1 : Nat)) q.o)) ∧ ∀ (i : Nat), i < List.length (stepsX (List.getD ms q.k default) (List.take j q.o)) → (fun i => [SV.int IntKind.i64 (List.getD (stepsX (List.getD ms q.k default) (List.take j q.o)) i (0 : Int))]) i = (fun i => [SV.int IntKind.i64 (List.getD (stepsX (List.getD ms q.k default) (List.take (j + (1 : Nat)) q.o)) i (0 : Int))]) i, (↑j : Int) + (1 : Int) = (↑(j + (1 : Nat)) : Int), (↑q.k : Int) = (↑q.k : Int), List.length q.o = List.length q.o ∧ ∀ (i : Nat), i < List.length q.o → (fun i => [SV.int IntKind.i64 (List.getD q.o i (0 : Int))]) i = (fun i => [SV.int IntKind.i64 (List.getD q.o i (0 : Int))]) i, List.length l = List.length l ∧ ∀ (i : Nat), i < List.length l → (fun i => [SV.int IntKind.i64 (List.getD l i (0 : Int))]) i = (fun i => [SV.int IntKind.i64 (List.getD l i (0 : Int))]) i, List.length ms = List.length ms ∧ ∀ (i : Nat), i < List.length ms → (fun i => Shift.cells (List.getD ms i default)) i = (fun i => Shift.cells (List.getD ms i default)) i] (by kernel_rfl) (by kernel_rfl) ⟨rfl, rfl, ?_, (by omega), rfl, ⟨rfl, fun _ _ => rfl⟩, ⟨rfl, fun _ _ => rfl⟩, ⟨rfl, fun _ _ => rfl⟩, trivial⟩ (by omega) (by show _ < _; omega)
                  rw [hsn]
                  exact ⟨rfl, fun _ _ => rfl⟩
            · have hje : j = q.o.length := by simp only [decide_eq_false_iff_not] at hc6; omega
              subst hje
              rw [List.take_length]
              rw [List.take_length] at hsj
              refine good_run 2 (obs := []) (by kernel_rfl) trivial ?_
              refine good_leaveJ (by kernel_rfl) ?_
              refine good_run 9 (obs := []) (by kernel_rfl) trivial ?_
              refine good_cond (decide ((List.getD ms q.k default).Before = (0 : Int))) (by kernel_rfl) (fun hc7 => ?_) (fun hc7 => ?_)
              · have hrs : refStep q.o (ms.getD q.k default) = stepsX (ms.getD q.k default) q.o ++ [(ms.getD q.k default).Number] := by
                  unfold refStep; rw [if_pos (by simpa using hc7)]
                refine good_run 5 (obs := []) (by kernel_rfl) trivial ?_
                refine good_run 1 (obs := [(3 : Nat) = (3 : Nat) ∧ (1 : Nat) = (1 : Nat) ∧ (1 : Nat) = (1 : Nat) ∧ roomOK (List.length (stepsX (List.getD ms q.k default) q.o) + (1 : Nat)) (8 : Nat)]) (by kernel_rfl) (by (first | omega | assumption | exact ⟨rfl, trivial⟩ | simp only [AllP, inK_iff, roomOK_iff, decide_eq_true_eq, Bool.and_eq_true, Bool.or_eq_true, Bool.not_eq_true', decide_eq_false_iff_not, and_true, true_and]; (first | omega | (and_intros <;> intros <;> (try and_intros) <;> first | omega | assumption | exact trivial)))) ?_
                refine good_part 94 ((1 : Nat)) ((1 : Nat)) (List.length (stepsX (List.getD ms q.k default) q.o) + (1 : Nat)) (joinGet (List.length (stepsX (List.getD ms q.k default) q.o)) (fun i => [SV.int IntKind.i64 (List.getD (stepsX (List.getD ms q.k default) q.o) i (0 : Int))]) (cutRows (1 : Nat) [SV.int IntKind.i64 (List.getD ms q.k default).Number])) (by kernel_rfl) ?_
                refine good_run 15 (obs := [InK IntKind.i64 ((↑q.k : Int) + (1 : Int))]) (by kernel_rfl) (by (first | omega | assumption | exact ⟨rfl, trivial⟩ | simp only [AllP, inK_iff, roomOK_iff, decide_eq_true_eq, Bool.and_eq_true, Bool.or_eq_true, Bool.not_eq_true', decide_eq_false_iff_not, and_true, true_and]; (first | omega | (and_intros <;> intros <;> (try and_intros) <;> first | omega | assumption | exact trivial)))) ?_
                refine good_backJ (mkA (q.k + 1) (refStep q.o (ms.getD q.k default))) [(↑q.k : Int) + (1 : Int) = (↑(mkA (q.k + (1 : Nat)) (refStep q.o (List.getD ms q.k default))).k : Int), List.length (stepsX (List.getD ms q.k default) q.o) + (1 : Nat) = List.length (mkA (q.k + (1 : Nat)) (refStep q.o (List.getD ms q.k default))).o ∧ ∀ (i : Nat), i < List.length (stepsX (List.getD ms q.k default) q.o) + (1 : Nat) → joinGet (List.length (stepsX (List.getD ms q.k default) q.o)) (fun i => [SV.int IntKind.i64 (List.getD (stepsX (List.getD ms q.k default) q.o) i (0 : Int))]) (cutRows (1 : Nat) [SV.int IntKind.i64 (List.getD ms q.k default).Number]) i = (fun i => [SV.int IntKind.i64 (List.getD (mkA (q.k + (1 : Nat)) (refStep q.o (List.getD ms q.k default))).o i (0 : Int))]) i, List.length l = List.length l ∧ ∀ (i : Nat), i < List.length l → (fun i => [SV.int IntKind.i64 (List.getD l i (0 : Int))]) i = (fun i => [SV.int IntKind.i64 (List.getD l i (0 : Int))]) i, List.length ms = List.length ms ∧ ∀ (i : Nat), i < List.length ms → (fun i => Shift.cells (List.getD ms i default)) i = (fun i => Shift.cells (List.getD ms i default)) i] (by kernel_rfl) (by kernel_rfl) ⟨(by rfl), ?_, ⟨rfl, fun _ _ => rfl⟩, ⟨rfl, fun _ _ => rfl⟩, trivial⟩ ?_ ?_
                · show _ = (refStep q.o (ms.getD q.k default)).length ∧ ∀ i, _ → _ = [SV.int .i64 ((refStep q.o (ms.getD q.k default)).getD i 0)]
                  rw [hrs]
                  exact row_snoc' (fun x => [SV.int .i64 x]) 0 _ _ 1 rfl
                · exact ⟨hlt, hperm, he⟩
                · show ms.length - (q.k + 1) < _; omega
              · have hrs : refStep q.o (ms.getD q.k default) = stepsX (ms.getD q.k default) q.o := by
                  unfold refStep; rw [if_neg (by simpa using hc7), List.append_nil]
                refine good_run 2 (obs := []) (by kernel_rfl) trivial ?_
                refine good_part 10 ((1 : Nat)) ((1 : Nat)) (List.length (stepsX (List.getD ms q.k default) q.o)) (fun i => [SV.int IntKind.i64 (List.getD (stepsX (List.getD ms q.k default) q.o) i (0 : Int))]) (by kernel_rfl) ?_
                refine good_run 11 (obs := [InK IntKind.i64 ((↑q.k : Int) + (1 : Int))]) (by kernel_rfl) (by (first | omega | assumption | exact ⟨rfl, trivial⟩ | simp only [AllP, inK_iff, roomOK_iff, decide_eq_true_eq, Bool.and_eq_true, Bool.or_eq_true, Bool.not_eq_true', decide_eq_false_iff_not, and_true, true_and]; (first | omega | (and_intros <;> intros <;> (try and_intros) <;> first | omega | assumption | exact trivial)))) ?_
                refine good_backJ (mkA (q.k + 1) (refStep q.o (ms.getD q.k default))) [(↑q.k : Int) + (1 : Int) = (↑(mkA (q.k + (1 : Nat)) (refStep q.o (List.getD ms q.k default))).k : Int), List.length (stepsX (List.getD ms q.k default) q.o) = List.length (mkA (q.k + (1 : Nat)) (refStep q.o (List.getD ms q.k default))).o ∧ ∀ (i : Nat), i < List.length (stepsX (List.getD ms q.k default) q.o) → (fun i => [SV.int IntKind.i64 (List.getD (stepsX (List.getD ms q.k default) q.o) i (0 : Int))]) i = (fun i => [SV.int IntKind.i64 (List.getD (mkA (q.k + (1 : Nat)) (refStep q.o (List.getD ms q.k default))).o i (0 : Int))]) i, List.length l = List.length l ∧ ∀ (i : Nat), i < List.length l → (fun i => [SV.int IntKind.i64 (List.getD l i (0 : Int))]) i = (fun i => [SV.int IntKind.i64 (List.getD l i (0 : Int))]) i, List.length ms = List.length ms ∧ ∀ (i : Nat), i < List.length ms → (fun i => Shift.cells (List.getD ms i default)) i = (fun i => Shift.cells (List.getD ms i default)) i] (by kernel_rfl) (by kernel_rfl) ⟨(by rfl), ?_, ⟨rfl, fun _ _ => rfl⟩, ⟨rfl, fun _ _ => rfl⟩, trivial⟩ ?_ ?_
                · show _ = (refStep q.o (ms.getD q.k default)).length ∧ ∀ i, _ → _ = [SV.int .i64 ((refStep q.o (ms.getD q.k default)).getD i 0)]
                  rw [hrs]
                  exact ⟨rfl, fun _ _ => rfl⟩
                · exact ⟨hlt, hperm, he⟩
                · show ms.length - (q.k + 1) < _; omega
      · have : q.k = ms.length := by simp only [decide_eq_false_iff_not] at hc3; omega
        rw [this, List.drop_length, refF] at he
        rw [← he]
        refine good_run 2 (obs := []) (by kernel_rfl) trivial ?_
        refine good_leaveJ (by kernel_rfl) ?_
        refine good_run 9 (obs := []) (by kernel_rfl) trivial ?_
        refine good_fin [List.length q.o = List.length (q.o, (0 : Int)).fst ∧ ∀ (i : Nat), i < List.length q.o → (fun i => [SV.int IntKind.i64 (List.getD q.o i (0 : Int))]) i = (fun i => [SV.int IntKind.i64 (List.getD (q.o, (0 : Int)).fst i (0 : Int))]) i, (0 : Int) = (0 : Int)] (by kernel_rfl) ⟨⟨rfl, fun _ _ => rfl⟩, rfl, trivial⟩
end Go.Sx.T
