/- Contracts of functions of the program, each proved by running its code symbolically (VR). -/
import Derived.Test.YtejhgipllmjhfaaVQ
namespace Go.Sx.T
open Go Go.Proofs Go.Sx
set_option maxRecDepth 100000
set_option maxHeartbeats 4000000
set_option linter.unusedVariables false
set_option linter.unusedSimpArgs false
def numF (a : Int) (n : Nat) (c : Came) : Bool := decide (c.Acc = a) && decide (c.Num = (n : Int) + 1)
def unitsQ (l : List Came) (a : Int) (n k : Nat) : List Int := (numP l a n ++ (l.take k).filter (numF a n)).map Came.Unit
theorem unitsQ_succ (l : List Came) (a : Int) (n k : Nat) (h : k < l.length) : unitsQ l a n (k + 1) = if numF a n (l.getD k default) = true then unitsQ l a n k ++ [(l.getD k default).Unit] else unitsQ l a n k := by
  unfold unitsQ
  rw [List.take_succ_eq_append_getElem h, List.filter_append, getD_of_lt l k h]
  by_cases e : numF a n l[k] = true
  · rw [if_pos e, List.filter_cons_of_pos e, List.filter_nil, ← List.append_assoc, List.map_append]; rfl
  · rw [if_neg e, List.filter_cons_of_neg e, List.filter_nil, List.append_nil]
theorem unitsQ_end (l : List Came) (a : Int) (n : Nat) : unitsQ l a n l.length = unitsQ l a (n + 1) 0 := by
  unfold unitsQ
  rw [List.take_length, numP_succ, List.take_zero, List.filter_nil, List.append_nil]
  rfl
theorem numP_len (l : List Came) (a : Int) : ∀ n, (numP l a n).length ≤ l.length * n
  | 0 => by simp [numP]
  | n + 1 => by
    rw [numP_succ, List.length_append, Nat.mul_succ]
    have := numP_len l a n
    have := List.length_filter_le (fun c : Came => decide (c.Acc = a) && decide (c.Num = (n : Int) + 1)) l
    omega
theorem unitsQ_len (l : List Came) (a : Int) (n k : Nat) (hk : k ≤ l.length) : (unitsQ l a n k).length ≤ l.length * (n + 1) := by
  unfold unitsQ
  rw [List.length_map, List.length_append, Nat.mul_succ]
  have := numP_len l a n
  have := List.length_filter_le (numF a n) (l.take k)
  rw [List.length_take] at this
  omega
theorem s21 (l : List Came) (a : Int) : Spec Try.prog 21 [cames l, .int .i64 a] (.tup [ints (orderC l a).1, .int .i64 (orderC l a).2]) := by
  refine spec_of_good mixed Try.func21 F21_ok (by kernel_rfl) ?_
  refine good_run 10 (obs := []) (by kernel_rfl) trivial ?_
  refine good_call (c := True) (by kernel_rfl) (fun _ => SVles.refl _) (fun _ => s44 (l)) (by kernel_rfl) ?_
  refine good_run 3 (obs := []) (by kernel_rfl) trivial ?_
  refine good_cond (!decide ((checkC l).snd = (0 : Int))) (by kernel_rfl) (fun hc1 => ?_) (fun hc1 => ?_)
  · have e : orderC l a = ([], 1) := if_pos (by simpa using hc1)
    rw [e]
    refine good_run 8 (obs := []) (by kernel_rfl) trivial ?_
    refine good_fin [(0 : Nat) = (0 : Nat), (1 : Int) = (1 : Int)] (by kernel_rfl) ⟨rfl, rfl, trivial⟩
  · have hc : (checkC l).2 = 0 := by simpa using hc1
    have hR := (right_iff l).1 hc
    have hll := hR.len
    clear hc1
    refine good_run 5 (obs := []) (by kernel_rfl) trivial ?_
    refine good_call (c := True) (by kernel_rfl) (fun _ => SVles.refl _) (fun _ => s50 (a) ((1 : Int)) ((1073741824 : Int))) (by kernel_rfl) ?_
    refine good_run 3 (obs := []) (by kernel_rfl) trivial ?_
    refine good_cond (!inI a (1 : Int) (1073741824 : Int)) (by kernel_rfl) (fun hc1 => ?_) (fun hc1 => ?_)
    · have e : orderC l a = ([], 2) := by rw [orderC, if_neg (by simp [hc]), if_pos (by simpa using hc1)]
      rw [e]
      refine good_run 8 (obs := []) (by kernel_rfl) trivial ?_
      refine good_fin [(0 : Nat) = (0 : Nat), (2 : Int) = (2 : Int)] (by kernel_rfl) ⟨rfl, rfl, trivial⟩
    · have hia : inI a 1 1073741824 = true := by simpa using hc1
      clear hc1
      have e : orderC l a = (unitsQ l a 9999 0, 0) := by
        rw [orderC, if_neg (by simp [hc]), if_neg (by rw [hia]; decide), order_eq hR hia, unitsQ, List.take_zero, List.filter_nil, List.append_nil]
      rw [e]
      refine good_run 13 (obs := []) (by kernel_rfl) trivial ?_
      refine good_loopJ (fun n : Nat => ⟨[(7, .sv (.int .i64 (n + 1))), (6, .own 0), (0, LV.sv (SV.lst (4 : Nat) (List.length l) fun i => Came.cells (List.getD l i default))), (1, LV.sv (SV.int IntKind.i64 a))], [.row 3 1 (unitsQ l a n 0).length true fun i => [.int .i64 ((unitsQ l a n 0).getD i 0)]]⟩) (fun n => n ≤ 9999) (fun n => 9999 - n) (0) [(0 : Nat) = (0 : Nat), (1 : Int) = (0 : Int) + (1 : Int), List.length l = List.length l ∧ ∀ (i : Nat), i < List.length l → (fun i => Came.cells (List.getD l i default)) i = (fun i => Came.cells (List.getD l i default)) i, a = a] (by kernel_rfl) (by kernel_rfl) ⟨rfl, (by omega), ⟨rfl, fun _ _ => rfl⟩, rfl, trivial⟩ (by omega) ?_
      intro n hn
      refine good_run 7 (obs := []) (by kernel_rfl) trivial ?_
      refine good_cond (decide ((↑n : Int) + (1 : Int) ≤ (9999 : Int))) (by kernel_rfl) (fun hc1 => ?_) (fun hc1 => ?_)
      · have hlt : n < 9999 := by simp only [decide_eq_true_eq] at hc1; omega
        have hbig : l.length * (n + 1) ≤ 2560000 := by
          have := Nat.mul_le_mul hll (show n + 1 ≤ 10000 by omega)
          omega
        clear hc1
        refine good_run 9 (obs := []) (by kernel_rfl) trivial ?_
        refine good_loopJ (fun k : Nat => ⟨[(8, .sv (.int .i64 (k))), (6, .own 0), (7, LV.sv (SV.int IntKind.i64 ((↑n : Int) + (1 : Int)))), (0, LV.sv (SV.lst (4 : Nat) (List.length l) fun i => Came.cells (List.getD l i default))), (1, LV.sv (SV.int IntKind.i64 a))], [.row 3 1 (unitsQ l a n k).length true fun i => [.int .i64 ((unitsQ l a n k).getD i 0)]]⟩) (fun k => k ≤ l.length) (fun k => l.length - k) (0) [List.length (unitsQ l a n (0 : Nat)) = List.length (unitsQ l a n (0 : Nat)) ∧ ∀ (i : Nat), i < List.length (unitsQ l a n (0 : Nat)) → (fun i => [SV.int IntKind.i64 (List.getD (unitsQ l a n (0 : Nat)) i (0 : Int))]) i = (fun i => [SV.int IntKind.i64 (List.getD (unitsQ l a n (0 : Nat)) i (0 : Int))]) i, (0 : Int) = (0 : Int), (↑n : Int) + (1 : Int) = (↑n : Int) + (1 : Int), List.length l = List.length l ∧ ∀ (i : Nat), i < List.length l → (fun i => Came.cells (List.getD l i default)) i = (fun i => Came.cells (List.getD l i default)) i, a = a] (by kernel_rfl) (by kernel_rfl) ⟨⟨rfl, fun _ _ => rfl⟩, rfl, rfl, ⟨rfl, fun _ _ => rfl⟩, rfl, trivial⟩ (by omega) ?_
        intro k hk
        have hql := unitsQ_len l a n k hk
        refine good_run 9 (obs := []) (by kernel_rfl) trivial ?_
        refine good_cond (decide ((↑k : Int) < (↑(List.length l) : Int))) (by kernel_rfl) (fun hc1 => ?_) (fun hc1 => ?_)
        · have hlt2 : k < l.length := by simp only [decide_eq_true_eq] at hc1; omega
          have hst := unitsQ_succ l a n k hlt2
          refine good_run 25 (obs := [(4 : Nat) = (4 : Nat) ∧ (0 : Int) ≤ (↑k : Int) ∧ (↑k : Int) < (↑(List.length l) : Int), decide ((List.getD l k default).Acc = a) = true ∧ True → (4 : Nat) = (4 : Nat) ∧ (0 : Int) ≤ (↑k : Int) ∧ (↑k : Int) < (↑(List.length l) : Int)]) (by kernel_rfl) (by (first | omega | assumption | exact ⟨rfl, trivial⟩ | simp only [AllP, inK_iff, roomOK_iff, decide_eq_true_eq, Bool.and_eq_true, Bool.or_eq_true, Bool.not_eq_true', decide_eq_false_iff_not, and_true, true_and]; (first | omega | (and_intros <;> intros <;> (try and_intros) <;> first | omega | assumption | exact trivial)))) ?_
          refine good_cond (decide ((List.getD l k default).Acc = a) && decide ((List.getD l k default).Num = (↑n : Int) + (1 : Int))) (by kernel_rfl) (fun hc2 => ?_) (fun hc2 => ?_)
          · rw [if_pos (show numF a n (l.getD k default) = true from hc2)] at hst
            refine good_run 19 (obs := [(4 : Nat) = (4 : Nat) ∧ (0 : Int) ≤ (↑k : Int) ∧ (↑k : Int) < (↑(List.length l) : Int), (3 : Nat) = (3 : Nat) ∧ (1 : Nat) = (1 : Nat) ∧ (1 : Nat) = (1 : Nat) ∧ roomOK (List.length (unitsQ l a n k) + (1 : Nat)) (8 : Nat), InK IntKind.i64 ((↑k : Int) + (1 : Int))]) (by kernel_rfl) (by (first | omega | assumption | exact ⟨rfl, trivial⟩ | simp only [AllP, inK_iff, roomOK_iff, decide_eq_true_eq, Bool.and_eq_true, Bool.or_eq_true, Bool.not_eq_true', decide_eq_false_iff_not, and_true, true_and]; (first | omega | (and_intros <;> intros <;> (try and_intros) <;> first | omega | assumption | exact trivial)))) ?_
            refine good_backJ (k + 1) [List.length (unitsQ l a n k) + (1 : Nat) = List.length (unitsQ l a n (k + (1 : Nat))) ∧ ∀ (i : Nat), i < List.length (unitsQ l a n k) + (1 : Nat) → joinGet (List.length (unitsQ l a n k)) (fun i => [SV.int IntKind.i64 (List.getD (unitsQ l a n k) i (0 : Int))]) (cutRows (1 : Nat) [SV.int IntKind.i64 (List.getD l k default).Unit]) i = (fun i => [SV.int IntKind.i64 (List.getD (unitsQ l a n (k + (1 : Nat))) i (0 : Int))]) i, (↑k : Int) + (1 : Int) = (↑(k + (1 : Nat)) : Int), (↑n : Int) + (1 : Int) = (↑n : Int) + (1 : Int), List.length l = List.length l ∧ ∀ (i : Nat), i < List.length l → (fun i => Came.cells (List.getD l i default)) i = (fun i => Came.cells (List.getD l i default)) i, a = a] (by kernel_rfl) (by kernel_rfl) ⟨?_, (by omega), rfl, ⟨rfl, fun _ _ => rfl⟩, rfl, trivial⟩ (by omega) (by show _ < _; omega)
            · rw [hst]
              exact row_snoc' (fun x : Int => [SV.int .i64 x]) 0 (unitsQ l a n k) (l.getD k default).Unit 1 rfl
          · rw [if_neg (by unfold numF; rw [hc2]; decide)] at hst
            refine good_run 8 (obs := [InK IntKind.i64 ((↑k : Int) + (1 : Int))]) (by kernel_rfl) (by (first | omega | assumption | exact ⟨rfl, trivial⟩ | simp only [AllP, inK_iff, roomOK_iff, decide_eq_true_eq, Bool.and_eq_true, Bool.or_eq_true, Bool.not_eq_true', decide_eq_false_iff_not, and_true, true_and]; (first | omega | (and_intros <;> intros <;> (try and_intros) <;> first | omega | assumption | exact trivial)))) ?_
            refine good_backJ (k + 1) [List.length (unitsQ l a n k) = List.length (unitsQ l a n (k + (1 : Nat))) ∧ ∀ (i : Nat), i < List.length (unitsQ l a n k) → (fun i => [SV.int IntKind.i64 (List.getD (unitsQ l a n k) i (0 : Int))]) i = (fun i => [SV.int IntKind.i64 (List.getD (unitsQ l a n (k + (1 : Nat))) i (0 : Int))]) i, (↑k : Int) + (1 : Int) = (↑(k + (1 : Nat)) : Int), (↑n : Int) + (1 : Int) = (↑n : Int) + (1 : Int), List.length l = List.length l ∧ ∀ (i : Nat), i < List.length l → (fun i => Came.cells (List.getD l i default)) i = (fun i => Came.cells (List.getD l i default)) i, a = a] (by kernel_rfl) (by kernel_rfl) ⟨?_, (by omega), rfl, ⟨rfl, fun _ _ => rfl⟩, rfl, trivial⟩ (by omega) (by show _ < _; omega)
            · rw [hst]; exact ⟨rfl, fun _ _ => rfl⟩
        · have hge : k = l.length := by simp only [decide_eq_false_iff_not] at hc1; omega
          subst hge
          rw [unitsQ_end] at hql ⊢
          refine good_run 2 (obs := []) (by kernel_rfl) trivial ?_
          refine good_leaveJ (by kernel_rfl) ?_
          refine good_run 8 (obs := [InK IntKind.i64 ((↑n : Int) + (1 : Int) + (1 : Int))]) (by kernel_rfl) (by (first | omega | assumption | exact ⟨rfl, trivial⟩ | simp only [AllP, inK_iff, roomOK_iff, decide_eq_true_eq, Bool.and_eq_true, Bool.or_eq_true, Bool.not_eq_true', decide_eq_false_iff_not, and_true, true_and]; (first | omega | (and_intros <;> intros <;> (try and_intros) <;> first | omega | assumption | exact trivial)))) ?_
          refine good_backJ (n + 1) [List.length (unitsQ l a (n + (1 : Nat)) (0 : Nat)) = List.length (unitsQ l a (n + (1 : Nat)) (0 : Nat)) ∧ ∀ (i : Nat), i < List.length (unitsQ l a (n + (1 : Nat)) (0 : Nat)) → (fun i => [SV.int IntKind.i64 (List.getD (unitsQ l a (n + (1 : Nat)) (0 : Nat)) i (0 : Int))]) i = (fun i => [SV.int IntKind.i64 (List.getD (unitsQ l a (n + (1 : Nat)) (0 : Nat)) i (0 : Int))]) i, (↑n : Int) + (1 : Int) + (1 : Int) = (↑(n + (1 : Nat)) : Int) + (1 : Int), List.length l = List.length l ∧ ∀ (i : Nat), i < List.length l → (fun i => Came.cells (List.getD l i default)) i = (fun i => Came.cells (List.getD l i default)) i, a = a] (by kernel_rfl) (by kernel_rfl) ⟨⟨rfl, fun _ _ => rfl⟩, (by omega), ⟨rfl, fun _ _ => rfl⟩, rfl, trivial⟩ (by omega) (by show _ < _; omega)
      · have hge : n = 9999 := by simp only [decide_eq_false_iff_not] at hc1; omega
        subst hge
        refine good_run 2 (obs := []) (by kernel_rfl) trivial ?_
        refine good_leaveJ (by kernel_rfl) ?_
        refine good_run 9 (obs := []) (by kernel_rfl) trivial ?_
        refine good_fin [List.length (unitsQ l a (9999 : Nat) (0 : Nat)) = List.length (unitsQ l a (9999 : Nat) (0 : Nat), (0 : Int)).fst ∧ ∀ (i : Nat), i < List.length (unitsQ l a (9999 : Nat) (0 : Nat)) → (fun i => [SV.int IntKind.i64 (List.getD (unitsQ l a (9999 : Nat) (0 : Nat)) i (0 : Int))]) i = (fun i => [SV.int IntKind.i64 (List.getD (unitsQ l a (9999 : Nat) (0 : Nat), (0 : Int)).fst i (0 : Int))]) i, (0 : Int) = (0 : Int)] (by kernel_rfl) ⟨⟨rfl, fun _ _ => rfl⟩, rfl, trivial⟩
end Go.Sx.T
