/- Contracts of functions of the program, each proved by running its code symbolically (CK). -/
import Derived.Test.YteecckjnbeambaaCJ
namespace Go.Sx.T
open Go Go.Proofs Go.Sx
set_option maxRecDepth 100000
set_option maxHeartbeats 4000000
set_option linter.unusedVariables false
set_option linter.unusedSimpArgs false
theorem dayL_last (l : List Move) (h : 0 < l.length) : dayL l = (l.getD (l.length - 1) default).Day := by
  have := dayL_take l (l.length - 1) (by omega)
  rwa [show l.length - 1 + 1 = l.length by omega, List.take_length] at this
theorem s36 (l : List Move) (m : Move) : Spec Try.prog 36 [moves l, m.sv] (.int .i64 (formE l m)) := by
  refine spec_len 0 rfl (hasBody_of_slim Try.func36 F36_ok) fun hlen => ?_
  refine spec_of_good mixed Try.func36 F36_ok (by kernel_rfl) ?_
  have heq := eq24
  refine good_run 31 (obs := [(decide (m.Day < (0 : Int)) || decide ((1048575 : Int) < m.Day) || decide (m.Box < (1 : Int)) || decide ((1073741824 : Int) < m.Box)) = false ∧ True → (2 : Nat) + (2 : Nat) ≤ (6 : Nat)]) (by kernel_rfl) (by (first | omega | assumption | exact ⟨rfl, trivial⟩ | simp only [AllP, inK_iff, roomOK_iff, decide_eq_true_eq, Bool.and_eq_true, Bool.or_eq_true, Bool.not_eq_true', decide_eq_false_iff_not, and_true, true_and]; (first | omega | (and_intros <;> intros <;> (try and_intros) <;> first | omega | assumption | exact trivial)))) ?_
  refine good_call (c := (decide (m.Day < (0 : Int)) || decide ((1048575 : Int) < m.Day) || decide (m.Box < (1 : Int)) || decide ((1073741824 : Int) < m.Box)) = false ∧ True) (by kernel_rfl) (fun _ => SVles.refl _) (fun _ => s44 (m.From.Kind) (m.From.Of)) (by kernel_rfl) ?_
  refine good_run 7 (obs := [(decide (m.Day < (0 : Int)) || decide ((1048575 : Int) < m.Day) || decide (m.Box < (1 : Int)) || decide ((1073741824 : Int) < m.Box) || !placed { Kind := m.From.Kind, Of := m.From.Of }) = false ∧ True → (4 : Nat) + (2 : Nat) ≤ (6 : Nat)]) (by kernel_rfl) (by (first | omega | assumption | exact ⟨rfl, trivial⟩ | simp only [AllP, inK_iff, roomOK_iff, decide_eq_true_eq, Bool.and_eq_true, Bool.or_eq_true, Bool.not_eq_true', decide_eq_false_iff_not, and_true, true_and]; (first | omega | (and_intros <;> intros <;> (try and_intros) <;> first | omega | assumption | exact trivial)))) ?_
  refine good_call (c := (decide (m.Day < (0 : Int)) || decide ((1048575 : Int) < m.Day) || decide (m.Box < (1 : Int)) || decide ((1073741824 : Int) < m.Box) || !placed { Kind := m.From.Kind, Of := m.From.Of }) = false ∧ True) (by kernel_rfl) (fun _ => SVles.refl _) (fun _ => s44 (m.To.Kind) (m.To.Of)) (by kernel_rfl) ?_
  refine good_run 5 (obs := []) (by kernel_rfl) trivial ?_
  refine good_cond (decide (m.Day < (0 : Int)) || decide ((1048575 : Int) < m.Day) || decide (m.Box < (1 : Int)) || decide ((1073741824 : Int) < m.Box) || !placed { Kind := m.From.Kind, Of := m.From.Of } || !placed { Kind := m.To.Kind, Of := m.To.Of }) (by kernel_rfl) (fun hc1 => ?_) (fun hc1 => ?_)
  · have e : formE l m = 2 := by
      have : okMove m = false := by
        simp only [Bool.or_eq_true, Bool.not_eq_true', decide_eq_true_eq] at hc1
        unfold okMove okDay okId
        rcases hc1 with ((((h | h) | h) | h) | h) | h <;> simp [h] <;> omega
      rw [formE, if_pos this]
    rw [e]
    refine good_run 7 (obs := []) (by kernel_rfl) trivial ?_
    refine good_fin [(2 : Int) = (2 : Int)] (by kernel_rfl) ⟨rfl, trivial⟩
  · have hok : okMove m = true := by
      simp only [Bool.or_eq_false_iff, Bool.not_eq_false', decide_eq_false_iff_not] at hc1
      unfold okMove okDay okId
      simp [hc1]
      omega
    have h0 : 0 ≤ m.Day := by
      simp only [okMove, okDay, Bool.and_eq_true, decide_eq_true_eq] at hok
      omega
    refine good_run 11 (obs := [(2 : Nat) + (2 : Nat) ≤ (6 : Nat), (4 : Nat) + (2 : Nat) ≤ (6 : Nat), EqOK Try.prog (24 : TypeId) (2 : Nat) ∧ (2 : Nat) = (2 : Nat)]) (by kernel_rfl) (by (first | omega | assumption | exact ⟨rfl, trivial⟩ | simp only [AllP, inK_iff, roomOK_iff, decide_eq_true_eq, Bool.and_eq_true, Bool.or_eq_true, Bool.not_eq_true', decide_eq_false_iff_not, and_true, true_and]; (first | omega | (and_intros <;> intros <;> (try and_intros) <;> first | omega | assumption | exact trivial)))) ?_
    refine good_cond (false ^^ decide ([m.From.Kind, m.From.Of] = [m.To.Kind, m.To.Of])) (by kernel_rfl) (fun hc2 => ?_) (fun hc2 => ?_)
    · have hft : m.From = m.To := (place_ints _ _).1 (by simpa using hc2)
      have e : formE l m = 1 := by rw [formE, if_neg (by rw [hok]; decide), if_pos hft]
      rw [e]
      refine good_run 7 (obs := []) (by kernel_rfl) trivial ?_
      refine good_fin [(1 : Int) = (1 : Int)] (by kernel_rfl) ⟨rfl, trivial⟩
    · have hft : m.From ≠ m.To := fun h => by rw [h] at hc2; simp at hc2
      have e1 : 0 < l.length → ((l.length : Int) - 1).toNat = l.length - 1 := fun h => by omega
      refine good_run 21 (obs := [decide ((0 : Int) < (↑(List.length l) : Int)) = true ∧ True → InK IntKind.i64 ((↑(List.length l) : Int) - (1 : Int)), decide ((0 : Int) < (↑(List.length l) : Int)) = true ∧ True → (6 : Nat) = (6 : Nat) ∧ (0 : Int) ≤ (↑(List.length l) : Int) - (1 : Int) ∧ (↑(List.length l) : Int) - (1 : Int) < (↑(List.length l) : Int)]) (by kernel_rfl) (by (first | omega | assumption | exact ⟨rfl, trivial⟩ | simp only [AllP, inK_iff, roomOK_iff, decide_eq_true_eq, Bool.and_eq_true, Bool.or_eq_true, Bool.not_eq_true', decide_eq_false_iff_not, and_true, true_and]; (first | omega | (and_intros <;> intros <;> (try and_intros) <;> first | omega | assumption | exact trivial)))) ?_
      refine good_cond (decide ((0 : Int) < (↑(List.length l) : Int)) && decide (m.Day < (List.getD l (Int.toNat ((↑(List.length l) : Int) - (1 : Int))) default).Day)) (by kernel_rfl) (fun hc3 => ?_) (fun hc3 => ?_)
      · simp only [Bool.and_eq_true, decide_eq_true_eq] at hc3
        have hl : 0 < l.length := by omega
        rw [e1 hl, ← dayL_last l hl] at hc3
        have e : formE l m = 5 := by rw [formE, if_neg (by rw [hok]; decide), if_neg hft, if_pos (by omega)]
        rw [e]
        refine good_run 7 (obs := []) (by kernel_rfl) trivial ?_
        refine good_fin [(5 : Int) = (5 : Int)] (by kernel_rfl) ⟨rfl, trivial⟩
      · have hd : ¬ m.Day < dayL l := by
          rcases Nat.eq_zero_or_pos l.length with h | h
          · have : l = [] := List.eq_nil_of_length_eq_zero h
            subst this
            show ¬ m.Day < 0
            omega
          · rw [e1 h, ← dayL_last l h] at hc3
            simp only [Bool.and_eq_false_iff, decide_eq_false_iff_not] at hc3
            omega
        refine good_run 7 (obs := []) (by kernel_rfl) trivial ?_
        refine good_call (c := True) (by kernel_rfl) (fun _ => SVles.refl _) (fun _ => s40 (l) (m.Box)) (by kernel_rfl) ?_
        refine good_run 5 (obs := [True → (2 : Nat) + (2 : Nat) ≤ (6 : Nat), True → EqOK Try.prog (24 : TypeId) (2 : Nat) ∧ (2 : Nat) = (2 : Nat)]) (by kernel_rfl) (by (first | omega | assumption | exact ⟨rfl, trivial⟩ | simp only [AllP, inK_iff, roomOK_iff, decide_eq_true_eq, Bool.and_eq_true, Bool.or_eq_true, Bool.not_eq_true', decide_eq_false_iff_not, and_true, true_and]; (first | omega | (and_intros <;> intros <;> (try and_intros) <;> first | omega | assumption | exact trivial)))) ?_
        refine good_cond (true ^^ decide ([(lastP l m.Box).Kind, (lastP l m.Box).Of] = [m.From.Kind, m.From.Of])) (by kernel_rfl) (fun hc4 => ?_) (fun hc4 => ?_)
        · have hls : lastP l m.Box ≠ m.From := fun h => by rw [h] at hc4; simp at hc4
          have e : formE l m = 10 := by rw [formE, if_neg (by rw [hok]; decide), if_neg hft, if_neg hd, if_pos hls]
          rw [e]
          refine good_run 7 (obs := []) (by kernel_rfl) trivial ?_
          refine good_fin [(10 : Int) = (10 : Int)] (by kernel_rfl) ⟨rfl, trivial⟩
        · have hls : lastP l m.Box = m.From := (place_ints _ _).1 (by simpa using hc4)
          have e : formE l m = 0 := by rw [formE, if_neg (by rw [hok]; decide), if_neg hft, if_neg hd, if_neg (fun h => h hls)]
          rw [e]
          refine good_run 7 (obs := []) (by kernel_rfl) trivial ?_
          refine good_fin [(0 : Int) = (0 : Int)] (by kernel_rfl) ⟨rfl, trivial⟩
theorem take_sv (l : List Move) (k : Nat) (hk : k ≤ l.length) : SVle (.lst 6 (k - 0) fun i => (l.getD ((0 : Int).toNat + i) default).cells) (moves (l.take k)) := by
  refine svle_lst (by rw [List.length_take]; omega) fun i hi => SVles.of_eq ?_
  show (l.getD (0 + i) default).cells = ((l.take k).getD i default).cells
  rw [Nat.zero_add, getD_take l k i (by omega)]
theorem s16 (l : List Move) : Spec Try.prog 16 [moves l] (.int .i64 (checkL l)) := by
  refine spec_len 0 rfl (hasBody_of_slim Try.func16 F16_ok) fun hlen => ?_
  refine spec_of_good mixed Try.func16 F16_ok (by kernel_rfl) ?_
  refine good_run 13 (obs := []) (by kernel_rfl) trivial ?_
  refine good_cond (decide ((1024 : Int) < (↑(List.length l) : Int))) (by kernel_rfl) (fun hc1 => ?_) (fun hc1 => ?_)
  · have e : checkL l = 8 := by simp only [decide_eq_true_eq] at hc1; rw [checkL, if_pos (by omega)]
    rw [e]
    refine good_run 7 (obs := []) (by kernel_rfl) trivial ?_
    refine good_fin [(8 : Int) = (8 : Int)] (by kernel_rfl) ⟨rfl, trivial⟩
  · have hck : checkL l = errFrom (errAt l) l.length 0 := by simp only [decide_eq_false_iff_not] at hc1; rw [checkL, if_neg (by omega)]
    simp only [decide_eq_false_iff_not] at hc1
    refine good_run 10 (obs := []) (by kernel_rfl) trivial ?_
    refine good_loopJ (fun k : Nat => ⟨[(11, .sv (.int .i64 (k))), (10, LV.sv (SV.int IntKind.i64 (↑(List.length l) : Int))), (9, LV.sv (SV.lst (6 : Nat) (List.length l) fun i => Move.cells (List.getD l i default))), (0, LV.sv (SV.lst (6 : Nat) (List.length l) fun i => Move.cells (List.getD l i default)))], []⟩) (fun k => k ≤ l.length ∧ checkL l = errFrom (errAt l) (l.length - k) k) (fun k => l.length - k) (0) [(0 : Int) = (0 : Int), (↑(List.length l) : Int) = (↑(List.length l) : Int), List.length l = List.length l ∧ ∀ (i : Nat), i < List.length l → (fun i => Move.cells (List.getD l i default)) i = (fun i => Move.cells (List.getD l i default)) i, List.length l = List.length l ∧ ∀ (i : Nat), i < List.length l → (fun i => Move.cells (List.getD l i default)) i = (fun i => Move.cells (List.getD l i default)) i] (by kernel_rfl) (by kernel_rfl) ⟨rfl, rfl, ⟨rfl, fun _ _ => rfl⟩, ⟨rfl, fun _ _ => rfl⟩, trivial⟩ ⟨by omega, by omega⟩ ?_
    intro k hk
    refine good_run 6 (obs := []) (by kernel_rfl) trivial ?_
    refine good_cond (decide ((↑k : Int) < (↑(List.length l) : Int))) (by kernel_rfl) (fun hc2 => ?_) (fun hc2 => ?_)
    · have hlt : k < l.length := by simp only [decide_eq_true_eq] at hc2; omega
      have hst := errFrom_step (errAt l) l.length k hlt
      refine good_run 19 (obs := [(6 : Nat) = (6 : Nat) ∧ (0 : Int) ≤ (↑k : Int) ∧ (↑k : Int) < (↑(List.length l) : Int), (0 : Nat) + (6 : Nat) ≤ (6 : Nat), (6 : Nat) = (6 : Nat) ∧ (0 : Nat) + (6 : Nat) ≤ (6 : Nat), True → (6 : Nat) = (6 : Nat) ∧ (0 : Int) ≤ (0 : Int) ∧ (0 : Int) ≤ (↑k : Int) ∧ (↑k : Int) ≤ (↑(List.length l) : Int), True → (0 : Nat) + (6 : Nat) ≤ (6 : Nat)]) (by kernel_rfl) (by (first | omega | assumption | exact ⟨rfl, trivial⟩ | simp only [AllP, inK_iff, roomOK_iff, decide_eq_true_eq, Bool.and_eq_true, Bool.or_eq_true, Bool.not_eq_true', decide_eq_false_iff_not, and_true, true_and]; (first | omega | (and_intros <;> intros <;> (try and_intros) <;> first | omega | assumption | exact trivial)))) ?_
      refine good_call (args := [SV.lst (6 : Nat) (k - (0 : Nat)) fun i => (fun i => Move.cells (List.getD l i default)) (Int.toNat (0 : Int) + i), SV.agg [SV.int IntKind.i64 (List.getD l k default).Day, SV.int IntKind.i64 (List.getD l k default).Box, SV.int IntKind.i64 (List.getD l k default).From.Kind, SV.int IntKind.i64 (List.getD l k default).From.Of, SV.int IntKind.i64 (List.getD l k default).To.Kind, SV.int IntKind.i64 (List.getD l k default).To.Of]]) (c := True) (by kernel_rfl) (fun _ => show SVles _ [moves (l.take k), (l.getD k default).sv] from ⟨take_sv l k hk.1, SVle.refl _, trivial⟩) (fun _ => s36 (l.take k) (l.getD k default)) (by kernel_rfl) ?_
      refine good_run 9 (obs := []) (by kernel_rfl) trivial ?_
      refine good_cond (!decide (formE (List.take k l) (List.getD l k default) = (0 : Int))) (by kernel_rfl) (fun hc3 => ?_) (fun hc3 => ?_)
      · have hne : errAt l k ≠ 0 := by simpa [errAt] using hc3
        have e : checkL l = formE (l.take k) (l.getD k default) := by rw [hk.2, hst, if_pos hne]; rfl
        rw [e]
        refine good_run 9 (obs := []) (by kernel_rfl) trivial ?_
        refine good_leaveJ (by kernel_rfl) ?_
        refine good_run 2 (obs := []) (by kernel_rfl) trivial ?_
        refine good_fin [formE (List.take k l) (List.getD l k default) = formE (List.take k l) (List.getD l k default)] (by kernel_rfl) ⟨rfl, trivial⟩
      · have h0 : errAt l k = 0 := by simpa [errAt] using hc3
        refine good_run 7 (obs := [InK IntKind.i64 ((↑k : Int) + (1 : Int))]) (by kernel_rfl) (by (first | omega | assumption | exact ⟨rfl, trivial⟩ | simp only [AllP, inK_iff, roomOK_iff, decide_eq_true_eq, Bool.and_eq_true, Bool.or_eq_true, Bool.not_eq_true', decide_eq_false_iff_not, and_true, true_and]; (first | omega | (and_intros <;> intros <;> (try and_intros) <;> first | omega | assumption | exact trivial)))) ?_
        have hnx : k + 1 ≤ l.length ∧ checkL l = errFrom (errAt l) (l.length - (k + 1)) (k + 1) := ⟨hlt, by rw [hk.2, hst, if_neg (fun h => h h0)]⟩
        refine good_backJ (k + 1) [(↑k : Int) + (1 : Int) = (↑(k + (1 : Nat)) : Int), (↑(List.length l) : Int) = (↑(List.length l) : Int), List.length l = List.length l ∧ ∀ (i : Nat), i < List.length l → (fun i => Move.cells (List.getD l i default)) i = (fun i => Move.cells (List.getD l i default)) i, List.length l = List.length l ∧ ∀ (i : Nat), i < List.length l → (fun i => Move.cells (List.getD l i default)) i = (fun i => Move.cells (List.getD l i default)) i] (by kernel_rfl) (by kernel_rfl) ⟨(by omega), rfl, ⟨rfl, fun _ _ => rfl⟩, ⟨rfl, fun _ _ => rfl⟩, trivial⟩ (by omega) (by show _ < _; omega)
    · have hge : k = l.length := by simp only [decide_eq_false_iff_not] at hc2; omega
      subst hge
      have e : checkL l = 0 := by rw [hk.2, errFrom_end]
      rw [e]
      refine good_run 2 (obs := []) (by kernel_rfl) trivial ?_
      refine good_leaveJ (by kernel_rfl) ?_
      refine good_run 7 (obs := []) (by kernel_rfl) trivial ?_
      refine good_fin [(0 : Int) = (0 : Int)] (by kernel_rfl) ⟨rfl, trivial⟩
theorem s14 (l : List Move) (m : Move) : Spec Try.prog 14 [moves l, m.sv] (.tup [moves (appendL l m).1, .int .i64 (appendL l m).2]) := by
  refine spec_of_good mixed Try.func14 F14_ok (by kernel_rfl) ?_
  refine good_run 11 (obs := []) (by kernel_rfl) trivial ?_
  refine good_call (c := True) (by kernel_rfl) (fun _ => SVles.refl _) (fun _ => s16 (l)) (by kernel_rfl) ?_
  refine good_run 3 (obs := []) (by kernel_rfl) trivial ?_
  refine good_cond (!decide (checkL l = (0 : Int))) (by kernel_rfl) (fun hc1 => ?_) (fun hc1 => ?_)
  · have e : appendL l m = ([], 1) := if_pos (by simpa using hc1)
    rw [e]
    refine good_run 8 (obs := []) (by kernel_rfl) trivial ?_
    refine good_fin [(0 : Nat) = (0 : Nat), (1 : Int) = (1 : Int)] (by kernel_rfl) ⟨rfl, rfl, trivial⟩
  · have hc : checkL l = 0 := by simpa using hc1
    have hll := ((checkL_iff l).1 hc).1
    refine good_run 9 (obs := []) (by kernel_rfl) trivial ?_
    refine good_cond (decide ((↑(List.length l) : Int) = (1024 : Int))) (by kernel_rfl) (fun hc2 => ?_) (fun hc2 => ?_)
    · have hf : l.length = 1024 := by simp only [decide_eq_true_eq] at hc2; omega
      have e : appendL l m = ([], 12) := by rw [appendL, if_neg (by simp [hc]), if_pos hf]
      rw [e]
      refine good_run 8 (obs := []) (by kernel_rfl) trivial ?_
      refine good_fin [(0 : Nat) = (0 : Nat), (12 : Int) = (12 : Int)] (by kernel_rfl) ⟨rfl, rfl, trivial⟩
    · have hf : ¬ l.length = 1024 := by simp only [decide_eq_false_iff_not] at hc2; omega
      refine good_run 6 (obs := [(0 : Nat) + (6 : Nat) ≤ (6 : Nat)]) (by kernel_rfl) (by (first | omega | assumption | exact ⟨rfl, trivial⟩ | simp only [AllP, inK_iff, roomOK_iff, decide_eq_true_eq, Bool.and_eq_true, Bool.or_eq_true, Bool.not_eq_true', decide_eq_false_iff_not, and_true, true_and]; (first | omega | (and_intros <;> intros <;> (try and_intros) <;> first | omega | assumption | exact trivial)))) ?_
      refine good_call (c := True) (by kernel_rfl) (fun _ => SVles.refl _) (fun _ => s36 (l) (m)) (by kernel_rfl) ?_
      refine good_run 9 (obs := []) (by kernel_rfl) trivial ?_
      refine good_cond (!decide (formE l m = (0 : Int))) (by kernel_rfl) (fun hc3 => ?_) (fun hc3 => ?_)
      · have e : appendL l m = ([], formE l m) := by rw [appendL, if_neg (by simp [hc]), if_neg hf, if_pos (by simpa using hc3)]
        rw [e]
        refine good_run 9 (obs := []) (by kernel_rfl) trivial ?_
        refine good_fin [(0 : Nat) = (0 : Nat), formE l m = formE l m] (by kernel_rfl) ⟨rfl, rfl, trivial⟩
      · have hz : formE l m = 0 := by simpa using hc3
        have e : appendL l m = (l ++ [m], 0) := by rw [appendL, if_neg (by simp [hc]), if_neg hf, if_neg (by simp [hz])]
        rw [e]
        have hj := join_snoc Move.cells default l m 6 rfl
        refine good_run 5 (obs := []) (by kernel_rfl) trivial ?_
        refine good_pick [0, 3] (by kernel_rfl) ⟨?_, ?_, trivial⟩
        refine good_run 2 (obs := []) (by kernel_rfl) trivial ?_
        refine good_all [0, 1, 3, 4, 5, 6, 7, 8, 9, 10, 11, 12, 13, 14, 15, 16, 17, 19, 20, 21, 22, 23, 24] 3 [(26 : Nat) = (26 : Nat) ∧ (6 : Nat) = (6 : Nat) ∧ (6 : Nat) = (6 : Nat) ∧ roomOK ((0 : Nat) + List.length l) (48 : Nat), (0 : Nat) + (6 : Nat) ≤ (6 : Nat), (26 : Nat) = (26 : Nat) ∧ (6 : Nat) = (6 : Nat) ∧ (6 : Nat) = (6 : Nat) ∧ roomOK ((0 : Nat) + List.length l + (1 : Nat)) (48 : Nat)] (by kernel_rfl) (by (first | omega | assumption | exact ⟨rfl, trivial⟩ | simp only [AllP, inK_iff, roomOK_iff, decide_eq_true_eq, Bool.and_eq_true, Bool.or_eq_true, Bool.not_eq_true', decide_eq_false_iff_not, and_true, true_and]; (first | omega | (and_intros <;> intros <;> (try and_intros) <;> first | omega | assumption | exact trivial)))) ?_
        refine good_run 1 (obs := []) (by kernel_rfl) trivial ?_
        refine good_fin [(0 : Nat) + List.length l + (1 : Nat) = List.length (l ++ [m], (0 : Int)).fst ∧ ∀ (i : Nat), i < (0 : Nat) + List.length l + (1 : Nat) → joinGet ((0 : Nat) + List.length l) (joinGet (0 : Nat) (cutRows (6 : Nat) []) fun i => Move.cells (List.getD l i default)) (cutRows (6 : Nat) [SV.int IntKind.i64 m.Day, SV.int IntKind.i64 m.Box, SV.int IntKind.i64 m.From.Kind, SV.int IntKind.i64 m.From.Of, SV.int IntKind.i64 m.To.Kind, SV.int IntKind.i64 m.To.Of]) i = (fun i => Move.cells (List.getD (l ++ [m], (0 : Int)).fst i default)) i, (0 : Int) = (0 : Int)] (by kernel_rfl) ⟨?_, rfl, trivial⟩
        rotate_left 1
        refine good_run 2 (obs := [(0 : Nat) + (6 : Nat) ≤ (6 : Nat)]) (by kernel_rfl) (by (first | omega | assumption | exact ⟨rfl, trivial⟩ | simp only [AllP, inK_iff, roomOK_iff, decide_eq_true_eq, Bool.and_eq_true, Bool.or_eq_true, Bool.not_eq_true', decide_eq_false_iff_not, and_true, true_and]; (first | omega | (and_intros <;> intros <;> (try and_intros) <;> first | omega | assumption | exact trivial)))) ?_
        refine good_pick [0, 4] (by kernel_rfl) ⟨?_, ?_, trivial⟩
        refine good_run 2 (obs := []) (by kernel_rfl) trivial ?_
        refine good_all [0, 1, 3, 4, 5, 6, 7, 8, 9, 10, 11, 12, 13, 14, 15, 16, 17, 19, 20, 21, 22, 23, 24] 2 [(26 : Nat) = (26 : Nat) ∧ (6 : Nat) = (6 : Nat) ∧ (6 : Nat) = (6 : Nat) ∧ roomOK ((0 : Nat) + List.length l) (48 : Nat), (26 : Nat) = (26 : Nat) ∧ (6 : Nat) = (6 : Nat) ∧ (6 : Nat) = (6 : Nat) ∧ roomOK ((0 : Nat) + List.length l + (1 : Nat)) (48 : Nat)] (by kernel_rfl) (by (first | omega | assumption | exact ⟨rfl, trivial⟩ | simp only [AllP, inK_iff, roomOK_iff, decide_eq_true_eq, Bool.and_eq_true, Bool.or_eq_true, Bool.not_eq_true', decide_eq_false_iff_not, and_true, true_and]; (first | omega | (and_intros <;> intros <;> (try and_intros) <;> first | omega | assumption | exact trivial)))) ?_
        refine good_run 1 (obs := []) (by kernel_rfl) trivial ?_
        refine good_fin [(0 : Nat) + List.length l + (1 : Nat) = List.length (l ++ [m], (0 : Int)).fst ∧ ∀ (i : Nat), i < (0 : Nat) + List.length l + (1 : Nat) → joinGet ((0 : Nat) + List.length l) (joinGet (0 : Nat) (cutRows (6 : Nat) []) fun i => Move.cells (List.getD l i default)) (cutRows (6 : Nat) [SV.int IntKind.i64 m.Day, SV.int IntKind.i64 m.Box, SV.int IntKind.i64 m.From.Kind, SV.int IntKind.i64 m.From.Of, SV.int IntKind.i64 m.To.Kind, SV.int IntKind.i64 m.To.Of]) i = (fun i => Move.cells (List.getD (l ++ [m], (0 : Int)).fst i default)) i, (0 : Int) = (0 : Int)] (by kernel_rfl) ⟨?_, rfl, trivial⟩
        rotate_left 1
        refine good_run 20 (obs := [(26 : Nat) = (26 : Nat) ∧ (6 : Nat) = (6 : Nat) ∧ (6 : Nat) = (6 : Nat) ∧ roomOK ((0 : Nat) + List.length l) (48 : Nat), (26 : Nat) = (26 : Nat) ∧ (6 : Nat) = (6 : Nat) ∧ (6 : Nat) = (6 : Nat) ∧ roomOK ((0 : Nat) + List.length l + (1 : Nat)) (48 : Nat)]) (by kernel_rfl) (by (first | omega | assumption | exact ⟨rfl, trivial⟩ | simp only [AllP, inK_iff, roomOK_iff, decide_eq_true_eq, Bool.and_eq_true, Bool.or_eq_true, Bool.not_eq_true', decide_eq_false_iff_not, and_true, true_and]; (first | omega | (and_intros <;> intros <;> (try and_intros) <;> first | omega | assumption | exact trivial)))) ?_
        refine good_fin [(0 : Nat) + List.length l + (1 : Nat) = List.length (l ++ [m], (0 : Int)).fst ∧ ∀ (i : Nat), i < (0 : Nat) + List.length l + (1 : Nat) → joinGet ((0 : Nat) + List.length l) (joinGet (0 : Nat) (cutRows (6 : Nat) []) fun i => Move.cells (List.getD l i default)) (cutRows (6 : Nat) [SV.int IntKind.i64 m.Day, SV.int IntKind.i64 m.Box, SV.int IntKind.i64 m.From.Kind, SV.int IntKind.i64 m.From.Of, SV.int IntKind.i64 m.To.Kind, SV.int IntKind.i64 m.To.Of]) i = (fun i => Move.cells (List.getD (l ++ [m], (0 : Int)).fst i default)) i, (0 : Int) = (0 : Int)] (by kernel_rfl) ⟨?_, rfl, trivial⟩
        rotate_left 1
        all_goals (rw [Nat.zero_add, joinGet_zero]; exact hj)
theorem s19 (l : List Move) (b d : Int) : Spec Try.prog 19 [moves l, .int .i64 b, .int .i64 d] (.tup [(whereL l b d).1.sv, .int .i64 (whereL l b d).2]) := by
  refine spec_of_good mixed Try.func19 F19_ok (by kernel_rfl) ?_
  refine good_run 10 (obs := []) (by kernel_rfl) trivial ?_
  refine good_call (c := True) (by kernel_rfl) (fun _ => SVles.refl _) (fun _ => s16 (l)) (by kernel_rfl) ?_
  refine good_run 3 (obs := []) (by kernel_rfl) trivial ?_
  refine good_cond (!decide (checkL l = (0 : Int))) (by kernel_rfl) (fun hc1 => ?_) (fun hc1 => ?_)
  · have e : whereL l b d = (⟨0, 0⟩, 1) := if_pos (by simpa using hc1)
    rw [e]
    refine good_run 9 (obs := [(2 : Nat) = (2 : Nat) ∧ (0 : Nat) + (2 : Nat) ≤ (2 : Nat)]) (by kernel_rfl) (by (first | omega | assumption | exact ⟨rfl, trivial⟩ | simp only [AllP, inK_iff, roomOK_iff, decide_eq_true_eq, Bool.and_eq_true, Bool.or_eq_true, Bool.not_eq_true', decide_eq_false_iff_not, and_true, true_and]; (first | omega | (and_intros <;> intros <;> (try and_intros) <;> first | omega | assumption | exact trivial)))) ?_
    refine good_fin [(0 : Int) = (0 : Int), (0 : Int) = (0 : Int), (1 : Int) = (1 : Int)] (by kernel_rfl) ⟨rfl, rfl, rfl, trivial⟩
  · have hc : checkL l = 0 := by simpa using hc1
    refine good_run 20 (obs := []) (by kernel_rfl) trivial ?_
    refine good_cond (decide (b < (1 : Int)) || decide ((1073741824 : Int) < b) || decide (d < (0 : Int)) || decide ((1048575 : Int) < d)) (by kernel_rfl) (fun hc2 => ?_) (fun hc2 => ?_)
    · have e : whereL l b d = (⟨0, 0⟩, 2) := by
        rw [whereL, if_neg (by simp [hc]), if_neg]
        simp only [Bool.or_eq_true, decide_eq_true_eq] at hc2
        simp only [okId, okDay, Bool.and_eq_true, decide_eq_true_eq]
        omega
      rw [e]
      refine good_run 9 (obs := [(2 : Nat) = (2 : Nat) ∧ (0 : Nat) + (2 : Nat) ≤ (2 : Nat)]) (by kernel_rfl) (by (first | omega | assumption | exact ⟨rfl, trivial⟩ | simp only [AllP, inK_iff, roomOK_iff, decide_eq_true_eq, Bool.and_eq_true, Bool.or_eq_true, Bool.not_eq_true', decide_eq_false_iff_not, and_true, true_and]; (first | omega | (and_intros <;> intros <;> (try and_intros) <;> first | omega | assumption | exact trivial)))) ?_
      refine good_fin [(0 : Int) = (0 : Int), (0 : Int) = (0 : Int), (2 : Int) = (2 : Int)] (by kernel_rfl) ⟨rfl, rfl, rfl, trivial⟩
    · have e : whereL l b d = (lastP (untilL l d) b, 0) := by
        rw [whereL, if_neg (by simp [hc]), if_pos]
        simp only [Bool.or_eq_false_iff, decide_eq_false_iff_not] at hc2
        simp only [okId, okDay, Bool.and_eq_true, decide_eq_true_eq]
        omega
      rw [e]
      refine good_run 5 (obs := []) (by kernel_rfl) trivial ?_
      refine good_call (c := True) (by kernel_rfl) (fun _ => SVles.refl _) (fun _ => s41 (l) (d)) (by kernel_rfl) ?_
      refine good_run 1 (obs := []) (by kernel_rfl) trivial ?_
      refine good_call (c := True) (by kernel_rfl) (fun _ => SVles.refl _) (fun _ => s40 (untilL l d) (b)) (by kernel_rfl) ?_
      refine good_run 5 (obs := [(2 : Nat) = (2 : Nat) ∧ (0 : Nat) + (2 : Nat) ≤ (2 : Nat)]) (by kernel_rfl) (by (first | omega | assumption | exact ⟨rfl, trivial⟩ | simp only [AllP, inK_iff, roomOK_iff, decide_eq_true_eq, Bool.and_eq_true, Bool.or_eq_true, Bool.not_eq_true', decide_eq_false_iff_not, and_true, true_and]; (first | omega | (and_intros <;> intros <;> (try and_intros) <;> first | omega | assumption | exact trivial)))) ?_
      refine good_fin [(lastP (untilL l d) b).Kind = (lastP (untilL l d) b).Kind, (lastP (untilL l d) b).Of = (lastP (untilL l d) b).Of, (0 : Int) = (0 : Int)] (by kernel_rfl) ⟨rfl, rfl, rfl, trivial⟩
end Go.Sx.T
