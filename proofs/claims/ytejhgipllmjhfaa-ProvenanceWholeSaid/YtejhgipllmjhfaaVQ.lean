/- Contracts of functions of the program, each proved by running its code symbolically (VQ). -/
import Derived.Test.YtejhgipllmjhfaaVSK
namespace Go.Sx.T
open Go Go.Proofs Go.Sx
set_option maxRecDepth 100000
set_option maxHeartbeats 4000000
set_option linter.unusedVariables false
set_option linter.unusedSimpArgs false
theorem units_succ (l : List Came) (k : Nat) (h : k < l.length) : (l.map Came.Unit).take (k + 1) = (l.map Came.Unit).take k ++ [(l.getD k default).Unit] := by
  rw [List.take_succ_eq_append_getElem (by simpa using h), List.getElem_map, getD_of_lt l k h]
theorem units_snoc (S : List Came) (k : Nat) (h : k < S.length) : k + 1 = k + 1 ∧ ∀ i, i < k + 1 → joinGet k (fun i => [SV.int .i64 ((S.map Came.Unit).getD i 0)]) (cutRows 1 [SV.int .i64 (S.getD k default).Unit]) i = (fun i => [SV.int .i64 ((S.map Came.Unit).getD i 0)]) i := by
  refine ⟨rfl, fun i hi => ?_⟩
  unfold joinGet
  split
  · rfl
  · have : i = k := by omega
    subst this
    rw [Nat.sub_self]
    show [SV.int .i64 (S.getD i default).Unit] = [SV.int .i64 ((S.map Came.Unit).getD i 0)]
    rw [getD_of_lt S i h, getD_of_lt (S.map Came.Unit) i (by simpa using h), List.getElem_map]
theorem s20 (l : List Came) (a : Int) : Spec Try.prog 20 [cames l, .int .i64 a] (.tup [ints (orderC l a).1, .int .i64 (orderC l a).2]) := by
  refine spec_of_good mixed Try.func20 F20_ok (by kernel_rfl) ?_
  refine good_run 12 (obs := []) (by kernel_rfl) trivial ?_
  refine good_call (c := True) (by kernel_rfl) (fun _ => SVles.refl _) (fun _ => s39 (l)) (by kernel_rfl) ?_
  refine good_run 4 (obs := []) (by kernel_rfl) trivial ?_
  refine good_cond (!decide ((checkC l).snd = (0 : Int))) (by kernel_rfl) (fun hc1 => ?_) (fun hc1 => ?_)
  · have e : orderC l a = ([], 1) := if_pos (by simpa using hc1)
    rw [e]
    refine good_run 9 (obs := []) (by kernel_rfl) trivial ?_
    refine good_fin [(0 : Nat) = (0 : Nat), (1 : Int) = (1 : Int)] (by kernel_rfl) ⟨rfl, rfl, trivial⟩
  · have hc : (checkC l).2 = 0 := by simpa using hc1
    have hR := (right_iff l).1 hc
    have hll := hR.len
    clear hc1
    refine good_run 3 (obs := []) (by kernel_rfl) trivial ?_
    refine good_call (c := True) (by kernel_rfl) (fun _ => SVles.refl _) (fun _ => s45 (a) ((1 : Int)) ((1073741824 : Int))) (by kernel_rfl) ?_
    refine good_run 4 (obs := []) (by kernel_rfl) trivial ?_
    refine good_cond (!inI a (1 : Int) (1073741824 : Int)) (by kernel_rfl) (fun hc1 => ?_) (fun hc1 => ?_)
    · have e : orderC l a = ([], 2) := by rw [orderC, if_neg (by simp [hc]), if_pos (by simpa using hc1)]
      rw [e]
      refine good_run 9 (obs := []) (by kernel_rfl) trivial ?_
      refine good_fin [(0 : Nat) = (0 : Nat), (2 : Int) = (2 : Int)] (by kernel_rfl) ⟨rfl, rfl, trivial⟩
    · have hia : inI a 1 1073741824 = true := by simpa using hc1
      clear hc1
      have e : orderC l a = ((sortN (ownL l a)).map Came.Unit, 0) := by rw [orderC, if_neg (by simp [hc]), if_neg (by rw [hia]; decide)]
      rw [e]
      have ha0 : a ≠ 0 := by simp only [inI, Bool.and_eq_true, decide_eq_true_eq] at hia; omega
      have hne := own_ne hR ha0
      have hol : (ownL l a).length ≤ 256 := by
        have := List.length_filter_le (fun c : Came => decide (c.Acc = a)) l
        unfold ownL; omega
      have hfe : (l.filter fun p => !(!decide (p.Acc = a))) = ownL l a := by unfold ownL; congr 1; funext p; simp
      have hdel := s46 l 47 [.ref [.int .i64 a] 0] (fun c => !decide (c.Acc = a)) (fun c => s47 c a) (by omega)
      rw [hfe] at hdel
      refine good_run 5 (obs := []) (by kernel_rfl) trivial ?_
      refine good_own (c := True) (by kernel_rfl) (by kernel_rfl) (SVles.refl _) (s13 (List.length l) (fun i => Came.cells (List.getD l i default)) (by (first | omega | assumption | exact ⟨rfl, trivial⟩ | simp only [AllP, inK_iff, roomOK_iff, decide_eq_true_eq, Bool.and_eq_true, Bool.or_eq_true, Bool.not_eq_true', decide_eq_false_iff_not, and_true, true_and]; (first | omega | (and_intros <;> intros <;> (try and_intros) <;> first | omega | assumption | exact trivial))))) ?_
      refine good_run 1 (obs := []) (by kernel_rfl) trivial ?_
      refine good_take (by kernel_rfl) (SVles.refl _) (SVles.refl _) (hdel) ?_
      refine good_run 6 (obs := []) (by kernel_rfl) trivial ?_
      refine good_sort (by kernel_rfl) (SVles.refl _) (SVles.refl _) (s48 (ownL l a) (by (first | omega | assumption | exact ⟨rfl, trivial⟩ | simp only [AllP, inK_iff, roomOK_iff, decide_eq_true_eq, Bool.and_eq_true, Bool.or_eq_true, Bool.not_eq_true', decide_eq_false_iff_not, and_true, true_and]; (first | omega | (and_intros <;> intros <;> (try and_intros) <;> first | omega | assumption | exact trivial)))) (by (first | omega | assumption | exact ⟨rfl, trivial⟩ | simp only [AllP, inK_iff, roomOK_iff, decide_eq_true_eq, Bool.and_eq_true, Bool.or_eq_true, Bool.not_eq_true', decide_eq_false_iff_not, and_true, true_and]; (first | omega | (and_intros <;> intros <;> (try and_intros) <;> first | omega | assumption | exact trivial))))) ?_
      refine good_run 16 (obs := []) (by kernel_rfl) trivial ?_
      have hsl := sortN_len (ownL l a)
      generalize hS : sortN (ownL l a) = S at hsl ⊢
      refine good_loopJ (fun k : Nat => ⟨[(26, .sv (.int .i64 (k))), (7, .own 2), (25, LV.sv (SV.int IntKind.i64 (↑(List.length (ownL l a)) : Int))), (24, LV.own (1 : Nat))], [Blk.cells (3 : Nat) false [SV.int IntKind.i64 a], Blk.row (32 : Nat) (4 : Nat) (List.length (ownL l a)) true fun i => Came.cells (List.getD S i default), .row 3 1 k true fun i => [.int .i64 ((S.map Came.Unit).getD i 0)]]⟩) (fun k => k ≤ S.length) (fun k => S.length - k) (0) [a = a, List.length (ownL l a) = List.length (ownL l a) ∧ ∀ (i : Nat), i < List.length (ownL l a) → (fun i => Came.cells (List.getD S i default)) i = (fun i => Came.cells (List.getD S i default)) i, (0 : Nat) = (0 : Nat), (0 : Int) = (0 : Int), (↑(List.length (ownL l a)) : Int) = (↑(List.length (ownL l a)) : Int)] (by kernel_rfl) (by kernel_rfl) ⟨rfl, ⟨rfl, fun _ _ => rfl⟩, rfl, rfl, rfl, trivial⟩ (by omega) ?_
      intro k hk
      refine good_run 6 (obs := []) (by kernel_rfl) trivial ?_
      refine good_cond (decide ((↑k : Int) < (↑(List.length (ownL l a)) : Int))) (by kernel_rfl) (fun hc1 => ?_) (fun hc1 => ?_)
      · have hlt : k < S.length := by simp only [decide_eq_true_eq] at hc1; omega
        have hst := units_succ S k hlt
        have hln : (S.map Came.Unit).length = S.length := List.length_map ..
        refine good_run 26 (obs := [(4 : Nat) = (4 : Nat) ∧ (0 : Int) ≤ (↑k : Int) ∧ (↑k : Int) < (↑(List.length (ownL l a)) : Int), (0 : Nat) + (4 : Nat) ≤ (4 : Nat), (4 : Nat) = (4 : Nat) ∧ (0 : Nat) + (4 : Nat) ≤ (4 : Nat), (3 : Nat) = (3 : Nat) ∧ (1 : Nat) = (1 : Nat) ∧ (1 : Nat) = (1 : Nat) ∧ roomOK (k + (1 : Nat)) (8 : Nat), InK IntKind.i64 ((↑k : Int) + (1 : Int))]) (by kernel_rfl) (by (first | omega | assumption | exact ⟨rfl, trivial⟩ | simp only [AllP, inK_iff, roomOK_iff, decide_eq_true_eq, Bool.and_eq_true, Bool.or_eq_true, Bool.not_eq_true', decide_eq_false_iff_not, and_true, true_and]; (first | omega | (and_intros <;> intros <;> (try and_intros) <;> first | omega | assumption | exact trivial)))) ?_
        refine good_backJ (k + 1) [a = a, List.length (ownL l a) = List.length (ownL l a) ∧ ∀ (i : Nat), i < List.length (ownL l a) → (fun i => Came.cells (List.getD S i default)) i = (fun i => Came.cells (List.getD S i default)) i, k + (1 : Nat) = k + (1 : Nat) ∧ ∀ (i : Nat), i < k + (1 : Nat) → joinGet k (fun i => [SV.int IntKind.i64 (List.getD (List.map Came.Unit S) i (0 : Int))]) (cutRows (1 : Nat) [SV.int IntKind.i64 (List.getD S k default).Unit]) i = (fun i => [SV.int IntKind.i64 (List.getD (List.map Came.Unit S) i (0 : Int))]) i, (↑k : Int) + (1 : Int) = (↑(k + (1 : Nat)) : Int), (↑(List.length (ownL l a)) : Int) = (↑(List.length (ownL l a)) : Int)] (by kernel_rfl) (by kernel_rfl) ⟨rfl, ⟨rfl, fun _ _ => rfl⟩, ?_, (by omega), rfl, trivial⟩ (by omega) (by show _ < _; omega)
        · exact units_snoc S k hlt
      · have hge : k = S.length := by simp only [decide_eq_false_iff_not] at hc1; omega
        have hln : (S.map Came.Unit).length = S.length := List.length_map ..
        subst hge
        refine good_run 2 (obs := []) (by kernel_rfl) trivial ?_
        refine good_leaveJ (by kernel_rfl) ?_
        refine good_run 9 (obs := []) (by kernel_rfl) trivial ?_
        refine good_fin [List.length S = List.length (List.map Came.Unit S, (0 : Int)).fst ∧ ∀ (i : Nat), i < List.length S → (fun i => [SV.int IntKind.i64 (List.getD (List.map Came.Unit S) i (0 : Int))]) i = (fun i => [SV.int IntKind.i64 (List.getD (List.map Came.Unit S, (0 : Int)).fst i (0 : Int))]) i, (0 : Int) = (0 : Int)] (by kernel_rfl) ⟨?_, rfl, trivial⟩
        exact ⟨hln.symm, fun _ _ => rfl⟩
end Go.Sx.T
