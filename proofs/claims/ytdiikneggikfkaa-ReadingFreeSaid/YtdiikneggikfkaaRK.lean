/- Contracts of functions of the program, each proved by running its code symbolically (RK). -/
import Derived.Test.YtdiikneggikfkaaRJ
namespace Go.Sx.T
open Go Go.Proofs Go.Sx
set_option maxRecDepth 100000
set_option maxHeartbeats 4000000
set_option linter.unusedVariables false
set_option linter.unusedSimpArgs false
theorem candL_take (l : List Bk) (a : Int) (k : Nat) (hk : k < l.length) : candL (l.take (k + 1)) a = if a < (l.getD k default).U then candL (l.take k) a ++ [(l.getD k default).U] else candL (l.take k) a := by
  unfold candL
  rw [take_snoc l default k hk, List.filter_append]
  by_cases h : a < (l.getD k default).U
  · rw [if_pos h, List.filter_cons_of_pos (by simpa only [decide_eq_true_eq] using h)]; simp
  · rw [if_neg h, List.filter_cons_of_neg (by simpa only [decide_eq_true_eq] using h)]; simp
def freeD (s : Int) (l : List Bk) (r a days : Int) : Int × Int := freeL s l (isort (candL l a)) r a days
theorem s25 (s : Int) (l : List Bk) (r a days : Int) : Spec Try.prog 25 [.int .i64 s, bks l, .agg [.int .i64 r, .int .i64 a, .int .i64 days]] (.tup [.int .i64 (freeD s l r a days).1, .int .i64 (freeD s l r a days).2]) := by
  refine spec_of_good mixed Try.func25 F25_ok (by kernel_rfl) ?_
  refine good_run 26 (obs := [True → (0 : Int) ≤ (0 : Int) ∧ (0 : Int) < (3 : Int), True → (0 : Int) ≤ (1 : Int) ∧ (1 : Int) < (3 : Int), True → (0 : Int) ≤ (2 : Int) ∧ (2 : Int) < (3 : Int)]) (by kernel_rfl) (by (first | omega | assumption | exact ⟨rfl, trivial⟩ | simp only [AllP, inK_iff, roomOK_iff, decide_eq_true_eq, Bool.and_eq_true, Bool.or_eq_true, Bool.not_eq_true', decide_eq_false_iff_not, and_true, true_and]; (first | omega | (and_intros <;> intros <;> (try and_intros) <;> first | omega | assumption | exact trivial)))) ?_
  refine good_call (c := True) (by kernel_rfl) (fun _ => SVles.refl _) (fun _ => s14 (s) (l)) (by kernel_rfl) ?_
  refine good_run 4 (obs := []) (by kernel_rfl) trivial ?_
  refine good_cond (!decide (checkL s l = (0 : Int))) (by kernel_rfl) (fun hc1 => ?_) (fun hc1 => ?_)
  · have h : checkL s l ≠ 0 := by simpa using hc1
    have e : freeD s l r a days = (0, 1) := by unfold freeD freeL; rw [if_pos h]
    rw [e]
    refine good_run 9 (obs := []) (by kernel_rfl) trivial ?_
    refine good_fin [(0 : Int) = (0 : Int), (1 : Int) = (1 : Int)] (by kernel_rfl) ⟨rfl, rfl, trivial⟩
  · have h : checkL s l = 0 := by simpa using hc1
    have hR := right_iff.1 h
    have hr := hR.len
    refine good_run 3 (obs := []) (by kernel_rfl) trivial ?_
    refine good_call (c := True) (by kernel_rfl) (fun _ => SVles.refl _) (fun _ => s43 (r)) (by kernel_rfl) ?_
    refine good_run 20 (obs := []) (by kernel_rfl) trivial ?_
    refine good_cond (!okId r || decide (a < (0 : Int)) || decide ((1048575 : Int) < a) || decide (days < (1 : Int)) || decide ((1024 : Int) < days)) (by kernel_rfl) (fun hc2 => ?_) (fun hc2 => ?_)
    · have e : freeD s l r a days = (0, 2) := by unfold freeD freeL; rw [if_neg (by simp [h]), if_pos hc2]
      rw [e]
      refine good_run 9 (obs := []) (by kernel_rfl) trivial ?_
      refine good_fin [(0 : Int) = (0 : Int), (2 : Int) = (2 : Int)] (by kernel_rfl) ⟨rfl, rfl, trivial⟩
    · have e0 : freeD s l r a days = dayR ((isort (candL l a)).find? (fitD s l r days)) := by unfold freeD freeL; rw [if_neg (by simp [h]), if_neg (by rw [hc2]; decide)]
      simp only [Bool.or_eq_false_iff, decide_eq_false_iff_not, Bool.not_eq_false'] at hc2
      refine good_run 18 (obs := []) (by kernel_rfl) trivial ?_
      refine good_loopJ (fun k : Nat => ⟨[(52, .sv (.int .i64 (k))), (11, .own 1), (51, LV.sv (SV.int IntKind.i64 (↑(List.length l) : Int))), (50, LV.sv (SV.lst (4 : Nat) (List.length l) fun i => Bk.cells (List.getD l i default))), (10, LV.sv (SV.int IntKind.i64 days)), (9, LV.sv (SV.int IntKind.i64 a)), (8, LV.sv (SV.int IntKind.i64 r)), (0, LV.sv (SV.int IntKind.i64 s)), (1, LV.sv (SV.lst (4 : Nat) (List.length l) fun i => Bk.cells (List.getD l i default)))], [Blk.cells (50 : Nat) true [SV.int IntKind.i64 r, SV.int IntKind.i64 a, SV.int IntKind.i64 days], rowI (candL (l.take k) a)]⟩) (fun k => k ≤ l.length) (fun k => l.length - k) (0) [r = r, a = a, days = days, (1 : Nat) = (1 : Nat) ∧ ∀ (i : Nat), i < (1 : Nat) → cutRows (1 : Nat) [SV.int IntKind.i64 a] i = (fun i => [SV.int IntKind.i64 (List.getD (candL (List.take (0 : Nat) l) a) i (0 : Int))]) i, (0 : Int) = (0 : Int), (↑(List.length l) : Int) = (↑(List.length l) : Int), List.length l = List.length l ∧ ∀ (i : Nat), i < List.length l → (fun i => Bk.cells (List.getD l i default)) i = (fun i => Bk.cells (List.getD l i default)) i, days = days, a = a, r = r, s = s, List.length l = List.length l ∧ ∀ (i : Nat), i < List.length l → (fun i => Bk.cells (List.getD l i default)) i = (fun i => Bk.cells (List.getD l i default)) i] (by kernel_rfl) (by kernel_rfl) ⟨rfl, rfl, rfl, ?_, rfl, rfl, ⟨rfl, fun _ _ => rfl⟩, rfl, rfl, rfl, rfl, ⟨rfl, fun _ _ => rfl⟩, trivial⟩ (by omega) ?_
      · exact ⟨rfl, fun i hi => by have : i = 0 := by omega
                                   subst this; rfl⟩
      intro k hk
      have hcl := candL_len (l.take k) a
      rw [List.length_take] at hcl
      refine good_run 6 (obs := []) (by kernel_rfl) trivial ?_
      refine good_cond (decide ((↑k : Int) < (↑(List.length l) : Int))) (by kernel_rfl) (fun hc3 => ?_) (fun hc3 => ?_)
      · have hlt : k < l.length := by simp only [decide_eq_true_eq] at hc3; omega
        have ht := candL_take l a k hlt
        refine good_run 20 (obs := [(4 : Nat) = (4 : Nat) ∧ (0 : Int) ≤ (↑k : Int) ∧ (↑k : Int) < (↑(List.length l) : Int), (0 : Nat) + (4 : Nat) ≤ (4 : Nat), (4 : Nat) = (4 : Nat) ∧ (0 : Nat) + (4 : Nat) ≤ (4 : Nat)]) (by kernel_rfl) (by (first | omega | assumption | exact ⟨rfl, trivial⟩ | simp only [AllP, inK_iff, roomOK_iff, decide_eq_true_eq, Bool.and_eq_true, Bool.or_eq_true, Bool.not_eq_true', decide_eq_false_iff_not, and_true, true_and]; (first | omega | (and_intros <;> intros <;> (try and_intros) <;> first | omega | assumption | exact trivial)))) ?_
        refine good_cond (decide (a < (List.getD l k default).U)) (by kernel_rfl) (fun hc4 => ?_) (fun hc4 => ?_)
        · rw [if_pos (by simpa using hc4)] at ht
          refine good_run 16 (obs := [(3 : Nat) = (3 : Nat) ∧ (1 : Nat) = (1 : Nat) ∧ (1 : Nat) = (1 : Nat) ∧ roomOK (List.length (candL (List.take k l) a) + (1 : Nat)) (8 : Nat), InK IntKind.i64 ((↑k : Int) + (1 : Int))]) (by kernel_rfl) (by (first | omega | assumption | exact ⟨rfl, trivial⟩ | simp only [AllP, inK_iff, roomOK_iff, decide_eq_true_eq, Bool.and_eq_true, Bool.or_eq_true, Bool.not_eq_true', decide_eq_false_iff_not, and_true, true_and]; (first | omega | (and_intros <;> intros <;> (try and_intros) <;> first | omega | assumption | exact trivial)))) ?_
          refine good_backJ (k + 1) [r = r, a = a, days = days, List.length (candL (List.take k l) a) + (1 : Nat) = List.length (candL (List.take (k + (1 : Nat)) l) a) ∧ ∀ (i : Nat), i < List.length (candL (List.take k l) a) + (1 : Nat) → joinGet (List.length (candL (List.take k l) a)) (fun i => [SV.int IntKind.i64 (List.getD (candL (List.take k l) a) i (0 : Int))]) (cutRows (1 : Nat) [SV.int IntKind.i64 (List.getD l k default).U]) i = (fun i => [SV.int IntKind.i64 (List.getD (candL (List.take (k + (1 : Nat)) l) a) i (0 : Int))]) i, (↑k : Int) + (1 : Int) = (↑(k + (1 : Nat)) : Int), (↑(List.length l) : Int) = (↑(List.length l) : Int), List.length l = List.length l ∧ ∀ (i : Nat), i < List.length l → (fun i => Bk.cells (List.getD l i default)) i = (fun i => Bk.cells (List.getD l i default)) i, days = days, a = a, r = r, s = s, List.length l = List.length l ∧ ∀ (i : Nat), i < List.length l → (fun i => Bk.cells (List.getD l i default)) i = (fun i => Bk.cells (List.getD l i default)) i] (by kernel_rfl) (by kernel_rfl) ⟨rfl, rfl, rfl, ?_, (by omega), rfl, ⟨rfl, fun _ _ => rfl⟩, rfl, rfl, rfl, rfl, ⟨rfl, fun _ _ => rfl⟩, trivial⟩ (by omega) (by show _ < _; omega)
          rw [ht]
          exact row_snoc' (fun x => [SV.int .i64 x]) 0 _ _ 1 rfl
        · rw [if_neg (by simpa using hc4)] at ht
          refine good_run 7 (obs := [InK IntKind.i64 ((↑k : Int) + (1 : Int))]) (by kernel_rfl) (by (first | omega | assumption | exact ⟨rfl, trivial⟩ | simp only [AllP, inK_iff, roomOK_iff, decide_eq_true_eq, Bool.and_eq_true, Bool.or_eq_true, Bool.not_eq_true', decide_eq_false_iff_not, and_true, true_and]; (first | omega | (and_intros <;> intros <;> (try and_intros) <;> first | omega | assumption | exact trivial)))) ?_
          refine good_backJ (k + 1) [r = r, a = a, days = days, List.length (candL (List.take k l) a) = List.length (candL (List.take (k + (1 : Nat)) l) a) ∧ ∀ (i : Nat), i < List.length (candL (List.take k l) a) → (fun i => [SV.int IntKind.i64 (List.getD (candL (List.take k l) a) i (0 : Int))]) i = (fun i => [SV.int IntKind.i64 (List.getD (candL (List.take (k + (1 : Nat)) l) a) i (0 : Int))]) i, (↑k : Int) + (1 : Int) = (↑(k + (1 : Nat)) : Int), (↑(List.length l) : Int) = (↑(List.length l) : Int), List.length l = List.length l ∧ ∀ (i : Nat), i < List.length l → (fun i => Bk.cells (List.getD l i default)) i = (fun i => Bk.cells (List.getD l i default)) i, days = days, a = a, r = r, s = s, List.length l = List.length l ∧ ∀ (i : Nat), i < List.length l → (fun i => Bk.cells (List.getD l i default)) i = (fun i => Bk.cells (List.getD l i default)) i] (by kernel_rfl) (by kernel_rfl) ⟨rfl, rfl, rfl, ?_, (by omega), rfl, ⟨rfl, fun _ _ => rfl⟩, rfl, rfl, rfl, rfl, ⟨rfl, fun _ _ => rfl⟩, trivial⟩ (by omega) (by show _ < _; omega)
          rw [ht]
          exact ⟨rfl, fun _ _ => rfl⟩
      · have : k = l.length := by simp only [decide_eq_false_iff_not] at hc3; omega
        subst this
        rw [List.take_length] at hcl ⊢
        have hil := isort_length (candL l a)
        have hmem : ∀ d ∈ isort (candL l a), d ≤ 1048576 := fun d hd => by
          rcases candL_mem.1 ((isort_perm _).mem_iff.1 hd) with e | ⟨b, hb, _, e⟩
          · omega
          · have := okSpan_iff.1 (right_span hR b hb); omega
        have hmem0 : ∀ d ∈ isort (candL l a), 0 ≤ d := fun d hd => by
          rcases candL_mem.1 ((isort_perm _).mem_iff.1 hd) with e | ⟨b, hb, _, e⟩
          · omega
          · have := okSpan_iff.1 (right_span hR b hb); omega
        refine good_run 2 (obs := []) (by kernel_rfl) trivial ?_
        refine good_leaveJ (by kernel_rfl) ?_
        refine good_run 4 (obs := []) (by kernel_rfl) trivial ?_
        refine good_sort (by kernel_rfl) (SVles.refl _) (SVles.refl _) (s44 ((3 : Nat)) (candL l a) (by (first | omega | assumption | exact ⟨rfl, trivial⟩ | simp only [AllP, inK_iff, roomOK_iff, decide_eq_true_eq, Bool.and_eq_true, Bool.or_eq_true, Bool.not_eq_true', decide_eq_false_iff_not, and_true, true_and]; (first | omega | (and_intros <;> intros <;> (try and_intros) <;> first | omega | assumption | exact trivial))))) ?_
        refine good_run 11 (obs := []) (by kernel_rfl) trivial ?_
        generalize isort (candL l a) = S at e0 hil hmem hmem0
        refine good_loopJ (fun k : Nat => ⟨[(72, .sv (.int .i64 (k))), (71, LV.sv (SV.int IntKind.i64 (↑(List.length (candL l a)) : Int))), (70, LV.own (1 : Nat)), (10, LV.sv (SV.int IntKind.i64 days)), (8, LV.sv (SV.int IntKind.i64 r)), (0, LV.sv (SV.int IntKind.i64 s)), (1, LV.sv (SV.lst (4 : Nat) (List.length l) fun i => Bk.cells (List.getD l i default)))], [Blk.cells (50 : Nat) true [SV.int IntKind.i64 r, SV.int IntKind.i64 a, SV.int IntKind.i64 days], Blk.row (3 : Nat) (1 : Nat) (List.length (candL l a)) true fun i => [SV.int IntKind.i64 (List.getD S i (0 : Int))]]⟩) (fun k => k ≤ S.length ∧ (S.take k).find? (fitD s l r days) = none) (fun k => S.length - k) (0) [r = r, a = a, days = days, List.length (candL l a) = List.length (candL l a) ∧ ∀ (i : Nat), i < List.length (candL l a) → (fun i => [SV.int IntKind.i64 (List.getD S i (0 : Int))]) i = (fun i => [SV.int IntKind.i64 (List.getD S i (0 : Int))]) i, (0 : Int) = (0 : Int), (↑(List.length (candL l a)) : Int) = (↑(List.length (candL l a)) : Int), days = days, r = r, s = s, List.length l = List.length l ∧ ∀ (i : Nat), i < List.length l → (fun i => Bk.cells (List.getD l i default)) i = (fun i => Bk.cells (List.getD l i default)) i] (by kernel_rfl) (by kernel_rfl) ⟨rfl, rfl, rfl, ⟨rfl, fun _ _ => rfl⟩, rfl, rfl, rfl, rfl, rfl, ⟨rfl, fun _ _ => rfl⟩, trivial⟩ ⟨by omega, rfl⟩ ?_
        intro k hk
        refine good_run 6 (obs := []) (by kernel_rfl) trivial ?_
        refine good_cond (decide ((↑k : Int) < (↑(List.length (candL l a)) : Int))) (by kernel_rfl) (fun hc4 => ?_) (fun hc4 => ?_)
        · have hlt : k < S.length := by simp only [decide_eq_true_eq] at hc4; omega
          have hd := hmem _ (getD_mem' (d := 0) S k hlt)
          have hd0 := hmem0 _ (getD_mem' (d := 0) S k hlt)
          refine good_run 24 (obs := [(1 : Nat) = (1 : Nat) ∧ (0 : Int) ≤ (↑k : Int) ∧ (↑k : Int) < (↑(List.length (candL l a)) : Int), InK IntKind.i64 (List.getD S k (0 : Int) + days), (2 : Nat) = (2 : Nat) ∧ (0 : Nat) + (2 : Nat) ≤ (2 : Nat), (0 : Nat) + (2 : Nat) ≤ (2 : Nat)]) (by kernel_rfl) (by (first | omega | assumption | exact ⟨rfl, trivial⟩ | simp only [AllP, inK_iff, roomOK_iff, decide_eq_true_eq, Bool.and_eq_true, Bool.or_eq_true, Bool.not_eq_true', decide_eq_false_iff_not, and_true, true_and]; (first | omega | (and_intros <;> intros <;> (try and_intros) <;> first | omega | assumption | exact trivial)))) ?_
          refine good_call (c := True) (by kernel_rfl) (fun _ => SVles.refl _) (fun _ => s33 (List.getD S k (0 : Int)) (List.getD S k (0 : Int) + days)) (by kernel_rfl) ?_
          refine good_run 5 (obs := [okSpan (List.getD S k (0 : Int)) (List.getD S k (0 : Int) + days) = true ∧ True → (0 : Nat) + (2 : Nat) ≤ (2 : Nat)]) (by kernel_rfl) (by (first | omega | assumption | exact ⟨rfl, trivial⟩ | simp only [AllP, inK_iff, roomOK_iff, decide_eq_true_eq, Bool.and_eq_true, Bool.or_eq_true, Bool.not_eq_true', decide_eq_false_iff_not, and_true, true_and]; (first | omega | (and_intros <;> intros <;> (try and_intros) <;> first | omega | assumption | exact trivial)))) ?_
          refine good_call (c := okSpan (List.getD S k (0 : Int)) (List.getD S k (0 : Int) + days) = true ∧ True) (by kernel_rfl) (fun _ => SVles.refl _) (fun _ => s45 (l) (r) (List.getD S k (0 : Int)) (List.getD S k (0 : Int) + days)) (by kernel_rfl) ?_
          refine good_run 8 (obs := [(okSpan (List.getD S k (0 : Int)) (List.getD S k (0 : Int) + days) && !busyL l r (List.getD S k (0 : Int)) (List.getD S k (0 : Int) + days)) = true ∧ True → (0 : Nat) + (2 : Nat) ≤ (2 : Nat)]) (by kernel_rfl) (by (first | omega | assumption | exact ⟨rfl, trivial⟩ | simp only [AllP, inK_iff, roomOK_iff, decide_eq_true_eq, Bool.and_eq_true, Bool.or_eq_true, Bool.not_eq_true', decide_eq_false_iff_not, and_true, true_and]; (first | omega | (and_intros <;> intros <;> (try and_intros) <;> first | omega | assumption | exact trivial)))) ?_
          refine good_call (c := (okSpan (List.getD S k (0 : Int)) (List.getD S k (0 : Int) + days) && !busyL l r (List.getD S k (0 : Int)) (List.getD S k (0 : Int) + days)) = true ∧ True) (by kernel_rfl) (fun _ => SVles.refl _) (fun _ => s46 (l) (List.getD S k (0 : Int)) (List.getD S k (0 : Int) + days) (s) (by (first | omega | assumption | exact ⟨rfl, trivial⟩ | simp only [AllP, inK_iff, roomOK_iff, decide_eq_true_eq, Bool.and_eq_true, Bool.or_eq_true, Bool.not_eq_true', decide_eq_false_iff_not, and_true, true_and]; (first | omega | (and_intros <;> intros <;> (try and_intros) <;> first | omega | assumption | exact trivial))))) (by kernel_rfl) ?_
          refine good_run 5 (obs := []) (by kernel_rfl) trivial ?_
          refine good_cond (okSpan (List.getD S k (0 : Int)) (List.getD S k (0 : Int) + days) && !busyL l r (List.getD S k (0 : Int)) (List.getD S k (0 : Int) + days) && !fullP l (List.getD S k (0 : Int)) (List.getD S k (0 : Int) + days) s) (by kernel_rfl) (fun hc5 => ?_) (fun hc5 => ?_)
          · have hf : fitD s l r days (S.getD k 0) = true := hc5
            have hs : S = S.take k ++ S.getD k 0 :: S.drop (k + 1) := by rw [← drop_cons S 0 k hlt, List.take_append_drop]
            have : S.find? (fitD s l r days) = some (S.getD k 0) := by
              rw [hs, List.find?_append, hk.2, Option.none_or, ← hs, List.find?_cons_of_pos hf]
            rw [e0, this]
            refine good_run 10 (obs := []) (by kernel_rfl) trivial ?_
            refine good_leaveJ (by kernel_rfl) ?_
            refine good_run 2 (obs := []) (by kernel_rfl) trivial ?_
            refine good_fin [List.getD S k (0 : Int) = (dayR (some (List.getD S k (0 : Int)))).fst, (0 : Int) = (dayR (some (List.getD S k (0 : Int)))).snd] (by kernel_rfl) ⟨(by rfl), (by rfl), trivial⟩
          · have hf : ¬ fitD s l r days (S.getD k 0) = true := by rw [show fitD s l r days (S.getD k 0) = false from hc5]; decide
            refine good_run 7 (obs := [InK IntKind.i64 ((↑k : Int) + (1 : Int))]) (by kernel_rfl) (by (first | omega | assumption | exact ⟨rfl, trivial⟩ | simp only [AllP, inK_iff, roomOK_iff, decide_eq_true_eq, Bool.and_eq_true, Bool.or_eq_true, Bool.not_eq_true', decide_eq_false_iff_not, and_true, true_and]; (first | omega | (and_intros <;> intros <;> (try and_intros) <;> first | omega | assumption | exact trivial)))) ?_
            refine good_backJ (k + 1) [r = r, a = a, days = days, List.length (candL l a) = List.length (candL l a) ∧ ∀ (i : Nat), i < List.length (candL l a) → (fun i => [SV.int IntKind.i64 (List.getD S i (0 : Int))]) i = (fun i => [SV.int IntKind.i64 (List.getD S i (0 : Int))]) i, (↑k : Int) + (1 : Int) = (↑(k + (1 : Nat)) : Int), (↑(List.length (candL l a)) : Int) = (↑(List.length (candL l a)) : Int), days = days, r = r, s = s, List.length l = List.length l ∧ ∀ (i : Nat), i < List.length l → (fun i => Bk.cells (List.getD l i default)) i = (fun i => Bk.cells (List.getD l i default)) i] (by kernel_rfl) (by kernel_rfl) ⟨rfl, rfl, rfl, ⟨rfl, fun _ _ => rfl⟩, (by omega), rfl, rfl, rfl, rfl, ⟨rfl, fun _ _ => rfl⟩, trivial⟩ ?_ (by show _ < _; omega)
            refine ⟨hlt, ?_⟩
            rw [take_snoc S 0 k hlt, List.find?_append, hk.2, Option.none_or, List.find?_cons_of_neg hf]; rfl
        · have : k = S.length := by simp only [decide_eq_false_iff_not] at hc4; have := hk.1; omega
          subst this
          have := hk.2
          rw [List.take_length] at this
          rw [e0, this]
          refine good_run 2 (obs := []) (by kernel_rfl) trivial ?_
          refine good_leaveJ (by kernel_rfl) ?_
          refine good_run 8 (obs := []) (by kernel_rfl) trivial ?_
          refine good_fin [(0 : Int) = (dayR none).fst, (12 : Int) = (dayR none).snd] (by kernel_rfl) ⟨(by rfl), (by rfl), trivial⟩
end Go.Sx.T
