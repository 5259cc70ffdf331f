/- Contracts of functions of the program, each proved by running its code symbolically (RH). -/
import Derived.Test.YtdiikneggikfkaaRG
namespace Go.Sx.T
open Go Go.Proofs Go.Sx
set_option maxRecDepth 100000
set_option maxHeartbeats 4000000
set_option linter.unusedVariables false
set_option linter.unusedSimpArgs false
theorem peakP_take (l : List Bk) (ds : List Int) (k : Nat) (hk : k < ds.length) : peakP l (ds.take (k + 1)) = peakStep l (peakP l (ds.take k)) (ds.getD k 0) := by
  rw [take_snoc ds 0 k hk, peakP_snoc]
theorem peakR_take (l : List Bk) (k : Nat) (hk : k < l.length) : peakR l (l.take (k + 1)) = peakStepR l (peakR l (l.take k)) (l.getD k default) := by
  rw [take_snoc l default k hk, peakR_snoc]
def peakL (l : List Bk) : Int × Nat := peakR l l
theorem peakL_is (l : List Bk) : IsPeak l (peakL l).1 (peakL l).2 := peakR_is l
theorem s11 (l : List Bk) (hl : l.length ≤ 10000) : Spec Try.prog 11 [bks l] (.tup [.int .i64 (peakL l).1, .int .i64 (peakL l).2]) := by
  refine spec_of_good mixed Try.func11 F11_ok (by kernel_rfl) ?_
  obtain ⟨hs, hm⟩ := startsL_spec l 0 1048576
  have hp : peakL l = peakP l (startsL l 0 1048576) := (peak_eq l _ hs hm).symm
  refine good_run 17 (obs := []) (by kernel_rfl) trivial ?_
  refine good_own (args := [SV.lst (4 : Nat) (List.length l) fun i => Bk.cells (List.getD l i default), SV.agg [SV.val (Value.int IntKind.i64 (Int.ofNat (0 : Nat))), SV.int IntKind.i64 (1048576 : Int)]]) (c := True) (by kernel_rfl) (by kernel_rfl) (show SVles _ [bks l, .agg [.int .i64 0, .int .i64 1048576]] from ⟨SVle.refl _, svle_agg ⟨svle_val_int _ _, SVle.refl _, trivial⟩, trivial⟩) (s29 l 0 1048576 hl) ?_
  rw [hp]
  have hdl : (startsL l 0 1048576).length ≤ 10001 := by
    have h1 := cmpP_le (isort (begL l 0 1048576)) (isort (begL l 0 1048576)).length
    have h2 := begL_len l 0 1048576
    rw [isort_length] at h1
    unfold startsL compactI
    rw [isort_length]
    omega
  generalize startsL l 0 1048576 = ds at hdl
  refine good_run 5 (obs := []) (by kernel_rfl) trivial ?_
  refine good_loopJ (fun k : Nat => ⟨[(13, .sv (.int .i64 (k))), (4, .sv (.int .i64 (((peakP l (ds.take k)).1)))), (5, .sv (.int .i64 (((peakP l (ds.take k)).2)))), (12, LV.sv (SV.int IntKind.i64 (↑(List.length ds) : Int))), (11, LV.own (0 : Nat)), (0, LV.sv (SV.lst (4 : Nat) (List.length l) fun i => Bk.cells (List.getD l i default)))], [Blk.row (3 : Nat) (1 : Nat) (List.length ds) true fun i => [SV.int IntKind.i64 (List.getD ds i (0 : Int))]]⟩) (fun k => k ≤ ds.length) (fun k => ds.length - k) (0) [List.length ds = List.length ds ∧ ∀ (i : Nat), i < List.length ds → (fun i => [SV.int IntKind.i64 (List.getD ds i (0 : Int))]) i = (fun i => [SV.int IntKind.i64 (List.getD ds i (0 : Int))]) i, (0 : Int) = (0 : Int), (0 : Int) = (peakP l (List.take (0 : Nat) ds)).fst, (0 : Int) = (↑(peakP l (List.take (0 : Nat) ds)).snd : Int), (↑(List.length ds) : Int) = (↑(List.length ds) : Int), List.length l = List.length l ∧ ∀ (i : Nat), i < List.length l → (fun i => Bk.cells (List.getD l i default)) i = (fun i => Bk.cells (List.getD l i default)) i] (by kernel_rfl) (by kernel_rfl) ⟨⟨rfl, fun _ _ => rfl⟩, rfl, (by rfl), (by rfl), rfl, ⟨rfl, fun _ _ => rfl⟩, trivial⟩ (by omega) ?_
  intro k hk
  refine good_run 6 (obs := []) (by kernel_rfl) trivial ?_
  refine good_cond (decide ((↑k : Int) < (↑(List.length ds) : Int))) (by kernel_rfl) (fun hc1 => ?_) (fun hc1 => ?_)
  · have hlt : k < ds.length := by simp only [decide_eq_true_eq] at hc1; omega
    have ht := peakP_take l ds k hlt
    refine good_run 14 (obs := [(1 : Nat) = (1 : Nat) ∧ (0 : Int) ≤ (↑k : Int) ∧ (↑k : Int) < (↑(List.length ds) : Int)]) (by kernel_rfl) (by (first | omega | assumption | exact ⟨rfl, trivial⟩ | simp only [AllP, inK_iff, roomOK_iff, decide_eq_true_eq, Bool.and_eq_true, Bool.or_eq_true, Bool.not_eq_true', decide_eq_false_iff_not, and_true, true_and]; (first | omega | (and_intros <;> intros <;> (try and_intros) <;> first | omega | assumption | exact trivial)))) ?_
    refine good_call (c := True) (by kernel_rfl) (fun _ => SVles.refl _) (fun _ => s16 (l) (List.getD ds k (0 : Int))) (by kernel_rfl) ?_
    refine good_run 10 (obs := []) (by kernel_rfl) trivial ?_
    refine good_cond (decide ((↑(peakP l (List.take k ds)).snd : Int) < (↑(loadL l (List.getD ds k (0 : Int))) : Int))) (by kernel_rfl) (fun hc2 => ?_) (fun hc2 => ?_)
    · have h : (peakP l (ds.take k)).2 < loadL l (ds.getD k 0) := by simp only [decide_eq_true_eq] at hc2; omega
      rw [peakStep, if_pos h] at ht
      refine good_run 13 (obs := [InK IntKind.i64 ((↑k : Int) + (1 : Int))]) (by kernel_rfl) (by (first | omega | assumption | exact ⟨rfl, trivial⟩ | simp only [AllP, inK_iff, roomOK_iff, decide_eq_true_eq, Bool.and_eq_true, Bool.or_eq_true, Bool.not_eq_true', decide_eq_false_iff_not, and_true, true_and]; (first | omega | (and_intros <;> intros <;> (try and_intros) <;> first | omega | assumption | exact trivial)))) ?_
      refine good_backJ (k + 1) [List.length ds = List.length ds ∧ ∀ (i : Nat), i < List.length ds → (fun i => [SV.int IntKind.i64 (List.getD ds i (0 : Int))]) i = (fun i => [SV.int IntKind.i64 (List.getD ds i (0 : Int))]) i, (↑k : Int) + (1 : Int) = (↑(k + (1 : Nat)) : Int), List.getD ds k (0 : Int) = (peakP l (List.take (k + (1 : Nat)) ds)).fst, (↑(loadL l (List.getD ds k (0 : Int))) : Int) = (↑(peakP l (List.take (k + (1 : Nat)) ds)).snd : Int), (↑(List.length ds) : Int) = (↑(List.length ds) : Int), List.length l = List.length l ∧ ∀ (i : Nat), i < List.length l → (fun i => Bk.cells (List.getD l i default)) i = (fun i => Bk.cells (List.getD l i default)) i] (by kernel_rfl) (by kernel_rfl) ⟨⟨rfl, fun _ _ => rfl⟩, (by omega), ?_, ?_, rfl, ⟨rfl, fun _ _ => rfl⟩, trivial⟩ (by omega) (by show _ < _; omega)
      · rw [ht]
      · rw [ht]
    · have h : ¬ (peakP l (ds.take k)).2 < loadL l (ds.getD k 0) := by simp only [decide_eq_false_iff_not] at hc2; omega
      rw [peakStep, if_neg h] at ht
      refine good_run 7 (obs := [InK IntKind.i64 ((↑k : Int) + (1 : Int))]) (by kernel_rfl) (by (first | omega | assumption | exact ⟨rfl, trivial⟩ | simp only [AllP, inK_iff, roomOK_iff, decide_eq_true_eq, Bool.and_eq_true, Bool.or_eq_true, Bool.not_eq_true', decide_eq_false_iff_not, and_true, true_and]; (first | omega | (and_intros <;> intros <;> (try and_intros) <;> first | omega | assumption | exact trivial)))) ?_
      refine good_backJ (k + 1) [List.length ds = List.length ds ∧ ∀ (i : Nat), i < List.length ds → (fun i => [SV.int IntKind.i64 (List.getD ds i (0 : Int))]) i = (fun i => [SV.int IntKind.i64 (List.getD ds i (0 : Int))]) i, (↑k : Int) + (1 : Int) = (↑(k + (1 : Nat)) : Int), (peakP l (List.take k ds)).fst = (peakP l (List.take (k + (1 : Nat)) ds)).fst, (↑(peakP l (List.take k ds)).snd : Int) = (↑(peakP l (List.take (k + (1 : Nat)) ds)).snd : Int), (↑(List.length ds) : Int) = (↑(List.length ds) : Int), List.length l = List.length l ∧ ∀ (i : Nat), i < List.length l → (fun i => Bk.cells (List.getD l i default)) i = (fun i => Bk.cells (List.getD l i default)) i] (by kernel_rfl) (by kernel_rfl) ⟨⟨rfl, fun _ _ => rfl⟩, (by omega), ?_, ?_, rfl, ⟨rfl, fun _ _ => rfl⟩, trivial⟩ (by omega) (by show _ < _; omega)
      · rw [ht]
      · rw [ht]
  · have : k = ds.length := by simp only [decide_eq_false_iff_not] at hc1; omega
    subst this
    rw [List.take_length]
    refine good_run 2 (obs := []) (by kernel_rfl) trivial ?_
    refine good_leaveJ (by kernel_rfl) ?_
    refine good_run 10 (obs := []) (by kernel_rfl) trivial ?_
    refine good_fin [(peakP l ds).fst = (peakP l ds).fst, (↑(peakP l ds).snd : Int) = (↑(peakP l ds).snd : Int)] (by kernel_rfl) ⟨rfl, rfl, trivial⟩
theorem s13 (l : List Bk) : Spec Try.prog 13 [bks l] (.tup [.int .i64 (peakL l).1, .int .i64 (peakL l).2]) := by
  refine spec_len 0 rfl (hasBody_of_slim Try.func13 F13_ok) fun hlen => ?_
  refine spec_of_good mixed Try.func13 F13_ok (by kernel_rfl) ?_
  refine good_run 21 (obs := []) (by kernel_rfl) trivial ?_
  refine good_loopJ (fun k : Nat => ⟨[(11, .sv (.int .i64 (k))), (4, .sv (.int .i64 (((peakR l (l.take k)).1)))), (5, .sv (.int .i64 (((peakR l (l.take k)).2)))), (10, LV.sv (SV.int IntKind.i64 (↑(List.length l) : Int))), (9, LV.sv (SV.lst (4 : Nat) (List.length l) fun i => Bk.cells (List.getD l i default))), (0, LV.sv (SV.lst (4 : Nat) (List.length l) fun i => Bk.cells (List.getD l i default)))], []⟩) (fun k => k ≤ l.length) (fun k => l.length - k) (0) [(0 : Int) = (0 : Int), (0 : Int) = (peakR l (List.take (0 : Nat) l)).fst, (0 : Int) = (↑(peakR l (List.take (0 : Nat) l)).snd : Int), (↑(List.length l) : Int) = (↑(List.length l) : Int), List.length l = List.length l ∧ ∀ (i : Nat), i < List.length l → (fun i => Bk.cells (List.getD l i default)) i = (fun i => Bk.cells (List.getD l i default)) i, List.length l = List.length l ∧ ∀ (i : Nat), i < List.length l → (fun i => Bk.cells (List.getD l i default)) i = (fun i => Bk.cells (List.getD l i default)) i] (by kernel_rfl) (by kernel_rfl) ⟨rfl, (by rfl), (by rfl), rfl, ⟨rfl, fun _ _ => rfl⟩, ⟨rfl, fun _ _ => rfl⟩, trivial⟩ (by omega) ?_
  intro k hk
  refine good_run 6 (obs := []) (by kernel_rfl) trivial ?_
  refine good_cond (decide ((↑k : Int) < (↑(List.length l) : Int))) (by kernel_rfl) (fun hc1 => ?_) (fun hc1 => ?_)
  · have hlt : k < l.length := by simp only [decide_eq_true_eq] at hc1; omega
    have ht := peakR_take l k hlt
    refine good_run 16 (obs := [(4 : Nat) = (4 : Nat) ∧ (0 : Int) ≤ (↑k : Int) ∧ (↑k : Int) < (↑(List.length l) : Int), (0 : Nat) + (4 : Nat) ≤ (4 : Nat), (4 : Nat) = (4 : Nat) ∧ (0 : Nat) + (4 : Nat) ≤ (4 : Nat), (2 : Nat) + (2 : Nat) ≤ (4 : Nat)]) (by kernel_rfl) (by (first | omega | assumption | exact ⟨rfl, trivial⟩ | simp only [AllP, inK_iff, roomOK_iff, decide_eq_true_eq, Bool.and_eq_true, Bool.or_eq_true, Bool.not_eq_true', decide_eq_false_iff_not, and_true, true_and]; (first | omega | (and_intros <;> intros <;> (try and_intros) <;> first | omega | assumption | exact trivial)))) ?_
    refine good_call (c := True) (by kernel_rfl) (fun _ => SVles.refl _) (fun _ => s30 ((List.getD l k default).F) ((List.getD l k default).U)) (by kernel_rfl) ?_
    refine good_run 3 (obs := []) (by kernel_rfl) trivial ?_
    refine good_cond (!okSpan (List.getD l k default).F (List.getD l k default).U) (by kernel_rfl) (fun hc2 => ?_) (fun hc2 => ?_)
    · have h : ¬ okSpan (l.getD k default).F (l.getD k default).U = true := by simpa using hc2
      rw [peakStepR, if_neg h] at ht
      refine good_run 8 (obs := [InK IntKind.i64 ((↑k : Int) + (1 : Int))]) (by kernel_rfl) (by (first | omega | assumption | exact ⟨rfl, trivial⟩ | simp only [AllP, inK_iff, roomOK_iff, decide_eq_true_eq, Bool.and_eq_true, Bool.or_eq_true, Bool.not_eq_true', decide_eq_false_iff_not, and_true, true_and]; (first | omega | (and_intros <;> intros <;> (try and_intros) <;> first | omega | assumption | exact trivial)))) ?_
      refine good_backJ (k + 1) [(↑k : Int) + (1 : Int) = (↑(k + (1 : Nat)) : Int), (peakR l (List.take k l)).fst = (peakR l (List.take (k + (1 : Nat)) l)).fst, (↑(peakR l (List.take k l)).snd : Int) = (↑(peakR l (List.take (k + (1 : Nat)) l)).snd : Int), (↑(List.length l) : Int) = (↑(List.length l) : Int), List.length l = List.length l ∧ ∀ (i : Nat), i < List.length l → (fun i => Bk.cells (List.getD l i default)) i = (fun i => Bk.cells (List.getD l i default)) i, List.length l = List.length l ∧ ∀ (i : Nat), i < List.length l → (fun i => Bk.cells (List.getD l i default)) i = (fun i => Bk.cells (List.getD l i default)) i] (by kernel_rfl) (by kernel_rfl) ⟨(by omega), ?_, ?_, rfl, ⟨rfl, fun _ _ => rfl⟩, ⟨rfl, fun _ _ => rfl⟩, trivial⟩ (by omega) (by show _ < _; omega)
      · rw [ht]
      · rw [ht]
    · have h : okSpan (l.getD k default).F (l.getD k default).U = true := by simpa using hc2
      rw [peakStepR, if_pos h] at ht
      refine good_run 7 (obs := []) (by kernel_rfl) trivial ?_
      refine good_call (c := True) (by kernel_rfl) (fun _ => SVles.refl _) (fun _ => s17 (l) ((List.getD l k default).F)) (by kernel_rfl) ?_
      refine good_run 22 (obs := []) (by kernel_rfl) trivial ?_
      refine good_cond (decide ((↑(peakR l (List.take k l)).snd : Int) < (↑(loadL l (List.getD l k default).F) : Int)) || decide ((↑(loadL l (List.getD l k default).F) : Int) = (↑(peakR l (List.take k l)).snd : Int)) && decide ((List.getD l k default).F < (peakR l (List.take k l)).fst)) (by kernel_rfl) (fun hc3 => ?_) (fun hc3 => ?_)
      · have h : (peakR l (l.take k)).2 < loadL l (l.getD k default).F ∨ (loadL l (l.getD k default).F = (peakR l (l.take k)).2 ∧ (l.getD k default).F < (peakR l (l.take k)).1) := by
          simp only [Bool.or_eq_true, Bool.and_eq_true, decide_eq_true_eq] at hc3; omega
        rw [if_pos h] at ht
        refine good_run 15 (obs := [InK IntKind.i64 ((↑k : Int) + (1 : Int))]) (by kernel_rfl) (by (first | omega | assumption | exact ⟨rfl, trivial⟩ | simp only [AllP, inK_iff, roomOK_iff, decide_eq_true_eq, Bool.and_eq_true, Bool.or_eq_true, Bool.not_eq_true', decide_eq_false_iff_not, and_true, true_and]; (first | omega | (and_intros <;> intros <;> (try and_intros) <;> first | omega | assumption | exact trivial)))) ?_
        refine good_backJ (k + 1) [(↑k : Int) + (1 : Int) = (↑(k + (1 : Nat)) : Int), (List.getD l k default).F = (peakR l (List.take (k + (1 : Nat)) l)).fst, (↑(loadL l (List.getD l k default).F) : Int) = (↑(peakR l (List.take (k + (1 : Nat)) l)).snd : Int), (↑(List.length l) : Int) = (↑(List.length l) : Int), List.length l = List.length l ∧ ∀ (i : Nat), i < List.length l → (fun i => Bk.cells (List.getD l i default)) i = (fun i => Bk.cells (List.getD l i default)) i, List.length l = List.length l ∧ ∀ (i : Nat), i < List.length l → (fun i => Bk.cells (List.getD l i default)) i = (fun i => Bk.cells (List.getD l i default)) i] (by kernel_rfl) (by kernel_rfl) ⟨(by omega), ?_, ?_, rfl, ⟨rfl, fun _ _ => rfl⟩, ⟨rfl, fun _ _ => rfl⟩, trivial⟩ (by omega) (by show _ < _; omega)
        · rw [ht]
        · rw [ht]
      · have h : ¬ ((peakR l (l.take k)).2 < loadL l (l.getD k default).F ∨ (loadL l (l.getD k default).F = (peakR l (l.take k)).2 ∧ (l.getD k default).F < (peakR l (l.take k)).1)) := by
          simp only [Bool.or_eq_false_iff, Bool.and_eq_false_iff, decide_eq_false_iff_not] at hc3; omega
        rw [if_neg h] at ht
        refine good_run 7 (obs := [InK IntKind.i64 ((↑k : Int) + (1 : Int))]) (by kernel_rfl) (by (first | omega | assumption | exact ⟨rfl, trivial⟩ | simp only [AllP, inK_iff, roomOK_iff, decide_eq_true_eq, Bool.and_eq_true, Bool.or_eq_true, Bool.not_eq_true', decide_eq_false_iff_not, and_true, true_and]; (first | omega | (and_intros <;> intros <;> (try and_intros) <;> first | omega | assumption | exact trivial)))) ?_
        refine good_backJ (k + 1) [(↑k : Int) + (1 : Int) = (↑(k + (1 : Nat)) : Int), (peakR l (List.take k l)).fst = (peakR l (List.take (k + (1 : Nat)) l)).fst, (↑(peakR l (List.take k l)).snd : Int) = (↑(peakR l (List.take (k + (1 : Nat)) l)).snd : Int), (↑(List.length l) : Int) = (↑(List.length l) : Int), List.length l = List.length l ∧ ∀ (i : Nat), i < List.length l → (fun i => Bk.cells (List.getD l i default)) i = (fun i => Bk.cells (List.getD l i default)) i, List.length l = List.length l ∧ ∀ (i : Nat), i < List.length l → (fun i => Bk.cells (List.getD l i default)) i = (fun i => Bk.cells (List.getD l i default)) i] (by kernel_rfl) (by kernel_rfl) ⟨(by omega), ?_, ?_, rfl, ⟨rfl, fun _ _ => rfl⟩, ⟨rfl, fun _ _ => rfl⟩, trivial⟩ (by omega) (by show _ < _; omega)
        · rw [ht]
        · rw [ht]
  · have : k = l.length := by simp only [decide_eq_false_iff_not] at hc1; omega
    subst this
    rw [List.take_length]
    refine good_run 2 (obs := []) (by kernel_rfl) trivial ?_
    refine good_leaveJ (by kernel_rfl) ?_
    refine good_run 10 (obs := []) (by kernel_rfl) trivial ?_
    refine good_fin [(peakR l l).fst = (peakL l).fst, (↑(peakR l l).snd : Int) = (↑(peakL l).snd : Int)] (by kernel_rfl) ⟨(by rfl), (by rfl), trivial⟩
theorem s18 (s : Int) (l : List Bk) (b : Bk) : Spec Try.prog 18 [.int .i64 s, bks l, b.sv] (.tup [bks (admitL s l b).1, .int .i64 (admitL s l b).2]) := by
  refine spec_of_good mixed Try.func18 F18_ok (by kernel_rfl) ?_
  refine good_run 12 (obs := []) (by kernel_rfl) trivial ?_
  refine good_call (c := True) (by kernel_rfl) (fun _ => SVles.refl _) (fun _ => s14 (s) (l)) (by kernel_rfl) ?_
  refine good_run 3 (obs := []) (by kernel_rfl) trivial ?_
  refine good_cond (!decide (checkL s l = (0 : Int))) (by kernel_rfl) (fun hc1 => ?_) (fun hc1 => ?_)
  · have h : checkL s l ≠ 0 := by simpa using hc1
    have e : admitL s l b = ([], 1) := by unfold admitL; rw [if_pos h]
    rw [e]
    refine good_run 8 (obs := []) (by kernel_rfl) trivial ?_
    refine good_fin [(0 : Nat) = (0 : Nat), (1 : Int) = (1 : Int)] (by kernel_rfl) ⟨rfl, rfl, trivial⟩
  · have h : checkL s l = 0 := by simpa using hc1
    have hr := (right_iff.1 h).len
    refine good_run 9 (obs := []) (by kernel_rfl) trivial ?_
    refine good_cond (decide ((1024 : Int) ≤ (↑(List.length l) : Int))) (by kernel_rfl) (fun hc2 => ?_) (fun hc2 => ?_)
    · have e : admitL s l b = ([], 8) := by unfold admitL; rw [if_neg (by simp [h]), if_pos (by simpa using hc2)]
      rw [e]
      refine good_run 8 (obs := []) (by kernel_rfl) trivial ?_
      refine good_fin [(0 : Nat) = (0 : Nat), (8 : Int) = (8 : Int)] (by kernel_rfl) ⟨rfl, rfl, trivial⟩
    · have h2 : ¬ 1024 ≤ (l.length : Int) := by simpa using hc2
      refine good_run 7 (obs := [(0 : Nat) + (4 : Nat) ≤ (4 : Nat)]) (by kernel_rfl) (by (first | omega | assumption | exact ⟨rfl, trivial⟩ | simp only [AllP, inK_iff, roomOK_iff, decide_eq_true_eq, Bool.and_eq_true, Bool.or_eq_true, Bool.not_eq_true', decide_eq_false_iff_not, and_true, true_and]; (first | omega | (and_intros <;> intros <;> (try and_intros) <;> first | omega | assumption | exact trivial)))) ?_
      refine good_call (c := True) (by kernel_rfl) (fun _ => SVles.refl _) (fun _ => s31 (s) (l) (b) (by (first | omega | assumption | exact ⟨rfl, trivial⟩ | simp only [AllP, inK_iff, roomOK_iff, decide_eq_true_eq, Bool.and_eq_true, Bool.or_eq_true, Bool.not_eq_true', decide_eq_false_iff_not, and_true, true_and]; (first | omega | (and_intros <;> intros <;> (try and_intros) <;> first | omega | assumption | exact trivial))))) (by kernel_rfl) ?_
      refine good_run 9 (obs := []) (by kernel_rfl) trivial ?_
      refine good_cond (!decide (faultP s l b = (0 : Int))) (by kernel_rfl) (fun hc3 => ?_) (fun hc3 => ?_)
      · have h3 : faultP s l b ≠ 0 := by simpa using hc3
        have e : admitL s l b = ([], faultP s l b) := by unfold admitL; rw [if_neg (by simp [h]), if_neg h2, if_pos h3]
        rw [e]
        refine good_run 9 (obs := []) (by kernel_rfl) trivial ?_
        refine good_fin [(0 : Nat) = (0 : Nat), faultP s l b = faultP s l b] (by kernel_rfl) ⟨rfl, rfl, trivial⟩
      · have h3 : faultP s l b = 0 := by simpa using hc3
        have e : admitL s l b = (l ++ [b], 0) := by unfold admitL; rw [if_neg (by simp [h]), if_neg h2, if_neg (by simp [h3])]
        rw [e]
        refine good_run 5 (obs := []) (by kernel_rfl) trivial ?_
        refine good_pick [1, 2] (by kernel_rfl) ⟨?_, ?_, trivial⟩
        refine good_own (c := True) (by kernel_rfl) (by kernel_rfl) (SVles.refl _) (s12 (List.length l) (fun i => Bk.cells (List.getD l i default)) (by (first | omega | assumption | exact ⟨rfl, trivial⟩ | simp only [AllP, inK_iff, roomOK_iff, decide_eq_true_eq, Bool.and_eq_true, Bool.or_eq_true, Bool.not_eq_true', decide_eq_false_iff_not, and_true, true_and]; (first | omega | (and_intros <;> intros <;> (try and_intros) <;> first | omega | assumption | exact trivial))))) ?_
        refine good_run 19 (obs := [(0 : Nat) + (4 : Nat) ≤ (4 : Nat), (31 : Nat) = (31 : Nat) ∧ (4 : Nat) = (4 : Nat) ∧ (4 : Nat) = (4 : Nat) ∧ roomOK (List.length l + (1 : Nat)) (32 : Nat)]) (by kernel_rfl) (by (first | omega | assumption | exact ⟨rfl, trivial⟩ | simp only [AllP, inK_iff, roomOK_iff, decide_eq_true_eq, Bool.and_eq_true, Bool.or_eq_true, Bool.not_eq_true', decide_eq_false_iff_not, and_true, true_and]; (first | omega | (and_intros <;> intros <;> (try and_intros) <;> first | omega | assumption | exact trivial)))) ?_
        refine good_fin [List.length l + (1 : Nat) = List.length (l ++ [b], (0 : Int)).fst ∧ ∀ (i : Nat), i < List.length l + (1 : Nat) → joinGet (List.length l) (fun i => Bk.cells (List.getD l i default)) (cutRows (4 : Nat) [SV.int IntKind.i64 b.ID, SV.int IntKind.i64 b.Rd, SV.int IntKind.i64 b.F, SV.int IntKind.i64 b.U]) i = (fun i => Bk.cells (List.getD (l ++ [b], (0 : Int)).fst i default)) i, (0 : Int) = (0 : Int)] (by kernel_rfl) ⟨?_, rfl, trivial⟩
        rotate_left 1
        refine good_run 2 (obs := [(0 : Nat) + (4 : Nat) ≤ (4 : Nat)]) (by kernel_rfl) (by (first | omega | assumption | exact ⟨rfl, trivial⟩ | simp only [AllP, inK_iff, roomOK_iff, decide_eq_true_eq, Bool.and_eq_true, Bool.or_eq_true, Bool.not_eq_true', decide_eq_false_iff_not, and_true, true_and]; (first | omega | (and_intros <;> intros <;> (try and_intros) <;> first | omega | assumption | exact trivial)))) ?_
        refine good_pick [1, 3] (by kernel_rfl) ⟨?_, ?_, trivial⟩
        refine good_own (c := True) (by kernel_rfl) (by kernel_rfl) (SVles.refl _) (s12 (List.length l) (fun i => Bk.cells (List.getD l i default)) (by (first | omega | assumption | exact ⟨rfl, trivial⟩ | simp only [AllP, inK_iff, roomOK_iff, decide_eq_true_eq, Bool.and_eq_true, Bool.or_eq_true, Bool.not_eq_true', decide_eq_false_iff_not, and_true, true_and]; (first | omega | (and_intros <;> intros <;> (try and_intros) <;> first | omega | assumption | exact trivial))))) ?_
        refine good_run 16 (obs := [(31 : Nat) = (31 : Nat) ∧ (4 : Nat) = (4 : Nat) ∧ (4 : Nat) = (4 : Nat) ∧ roomOK (List.length l + (1 : Nat)) (32 : Nat)]) (by kernel_rfl) (by (first | omega | assumption | exact ⟨rfl, trivial⟩ | simp only [AllP, inK_iff, roomOK_iff, decide_eq_true_eq, Bool.and_eq_true, Bool.or_eq_true, Bool.not_eq_true', decide_eq_false_iff_not, and_true, true_and]; (first | omega | (and_intros <;> intros <;> (try and_intros) <;> first | omega | assumption | exact trivial)))) ?_
        refine good_fin [List.length l + (1 : Nat) = List.length (l ++ [b], (0 : Int)).fst ∧ ∀ (i : Nat), i < List.length l + (1 : Nat) → joinGet (List.length l) (fun i => Bk.cells (List.getD l i default)) (cutRows (4 : Nat) [SV.int IntKind.i64 b.ID, SV.int IntKind.i64 b.Rd, SV.int IntKind.i64 b.F, SV.int IntKind.i64 b.U]) i = (fun i => Bk.cells (List.getD (l ++ [b], (0 : Int)).fst i default)) i, (0 : Int) = (0 : Int)] (by kernel_rfl) ⟨?_, rfl, trivial⟩
        rotate_left 1
        refine good_run 3 (obs := []) (by kernel_rfl) trivial ?_
        refine good_own (c := True) (by kernel_rfl) (by kernel_rfl) (SVles.refl _) (s12 (List.length l) (fun i => Bk.cells (List.getD l i default)) (by (first | omega | assumption | exact ⟨rfl, trivial⟩ | simp only [AllP, inK_iff, roomOK_iff, decide_eq_true_eq, Bool.and_eq_true, Bool.or_eq_true, Bool.not_eq_true', decide_eq_false_iff_not, and_true, true_and]; (first | omega | (and_intros <;> intros <;> (try and_intros) <;> first | omega | assumption | exact trivial))))) ?_
        refine good_run 13 (obs := [(31 : Nat) = (31 : Nat) ∧ (4 : Nat) = (4 : Nat) ∧ (4 : Nat) = (4 : Nat) ∧ roomOK (List.length l + (1 : Nat)) (32 : Nat)]) (by kernel_rfl) (by (first | omega | assumption | exact ⟨rfl, trivial⟩ | simp only [AllP, inK_iff, roomOK_iff, decide_eq_true_eq, Bool.and_eq_true, Bool.or_eq_true, Bool.not_eq_true', decide_eq_false_iff_not, and_true, true_and]; (first | omega | (and_intros <;> intros <;> (try and_intros) <;> first | omega | assumption | exact trivial)))) ?_
        refine good_fin [List.length l + (1 : Nat) = List.length (l ++ [b], (0 : Int)).fst ∧ ∀ (i : Nat), i < List.length l + (1 : Nat) → joinGet (List.length l) (fun i => Bk.cells (List.getD l i default)) (cutRows (4 : Nat) [SV.int IntKind.i64 b.ID, SV.int IntKind.i64 b.Rd, SV.int IntKind.i64 b.F, SV.int IntKind.i64 b.U]) i = (fun i => Bk.cells (List.getD (l ++ [b], (0 : Int)).fst i default)) i, (0 : Int) = (0 : Int)] (by kernel_rfl) ⟨?_, rfl, trivial⟩
        rotate_left 1
        all_goals exact row_snoc' Bk.cells default l b 4 rfl
theorem s19 (s : Int) (l : List Bk) (b : Bk) : Spec Try.prog 19 [.int .i64 s, bks l, b.sv] (.tup [bks (admitL s l b).1, .int .i64 (admitL s l b).2]) := by
  refine spec_of_good mixed Try.func19 F19_ok (by kernel_rfl) ?_
  have hfe := fault_eq s l b
  refine good_run 12 (obs := []) (by kernel_rfl) trivial ?_
  refine good_call (c := True) (by kernel_rfl) (fun _ => SVles.refl _) (fun _ => s15 (s) (l)) (by kernel_rfl) ?_
  refine good_run 3 (obs := []) (by kernel_rfl) trivial ?_
  refine good_cond (!decide (checkL s l = (0 : Int))) (by kernel_rfl) (fun hc1 => ?_) (fun hc1 => ?_)
  · have h : checkL s l ≠ 0 := by simpa using hc1
    have e : admitL s l b = ([], 1) := by unfold admitL; rw [if_pos h]
    rw [e]
    refine good_run 8 (obs := []) (by kernel_rfl) trivial ?_
    refine good_fin [(0 : Nat) = (0 : Nat), (1 : Int) = (1 : Int)] (by kernel_rfl) ⟨rfl, rfl, trivial⟩
  · have h : checkL s l = 0 := by simpa using hc1
    have hr := (right_iff.1 h).len
    refine good_run 9 (obs := []) (by kernel_rfl) trivial ?_
    refine good_cond (decide ((↑(List.length l) : Int) = (1024 : Int))) (by kernel_rfl) (fun hc2 => ?_) (fun hc2 => ?_)
    · have e : admitL s l b = ([], 8) := by
        simp only [decide_eq_true_eq] at hc2
        unfold admitL; rw [if_neg (by simp [h]), if_pos (by omega)]
      rw [e]
      refine good_run 8 (obs := []) (by kernel_rfl) trivial ?_
      refine good_fin [(0 : Nat) = (0 : Nat), (8 : Int) = (8 : Int)] (by kernel_rfl) ⟨rfl, rfl, trivial⟩
    · have h2 : ¬ 1024 ≤ (l.length : Int) := by simp only [decide_eq_false_iff_not] at hc2; omega
      refine good_run 7 (obs := [(0 : Nat) + (4 : Nat) ≤ (4 : Nat)]) (by kernel_rfl) (by (first | omega | assumption | exact ⟨rfl, trivial⟩ | simp only [AllP, inK_iff, roomOK_iff, decide_eq_true_eq, Bool.and_eq_true, Bool.or_eq_true, Bool.not_eq_true', decide_eq_false_iff_not, and_true, true_and]; (first | omega | (and_intros <;> intros <;> (try and_intros) <;> first | omega | assumption | exact trivial)))) ?_
      refine good_call (c := True) (by kernel_rfl) (fun _ => SVles.refl _) (fun _ => s32 (s) (l) (b) (by (first | omega | assumption | exact ⟨rfl, trivial⟩ | simp only [AllP, inK_iff, roomOK_iff, decide_eq_true_eq, Bool.and_eq_true, Bool.or_eq_true, Bool.not_eq_true', decide_eq_false_iff_not, and_true, true_and]; (first | omega | (and_intros <;> intros <;> (try and_intros) <;> first | omega | assumption | exact trivial))))) (by kernel_rfl) ?_
      refine good_run 9 (obs := []) (by kernel_rfl) trivial ?_
      refine good_cond (!decide (faultR s l b = (0 : Int))) (by kernel_rfl) (fun hc3 => ?_) (fun hc3 => ?_)
      · have h3 : faultP s l b ≠ 0 := by rw [hfe]; simpa using hc3
        have e : admitL s l b = ([], faultP s l b) := by unfold admitL; rw [if_neg (by simp [h]), if_neg h2, if_pos h3]
        rw [e, hfe]
        refine good_run 9 (obs := []) (by kernel_rfl) trivial ?_
        refine good_fin [(0 : Nat) = (0 : Nat), faultR s l b = faultR s l b] (by kernel_rfl) ⟨rfl, rfl, trivial⟩
      · have h3 : faultP s l b = 0 := by rw [hfe]; simpa using hc3
        have e : admitL s l b = (l ++ [b], 0) := by unfold admitL; rw [if_neg (by simp [h]), if_neg h2, if_neg (by simp [h3])]
        rw [e]
        refine good_run 5 (obs := []) (by kernel_rfl) trivial ?_
        refine good_pick [0, 3] (by kernel_rfl) ⟨?_, ?_, trivial⟩
        refine good_run 2 (obs := []) (by kernel_rfl) trivial ?_
        refine good_all [0, 1, 2, 5, 6, 7, 8, 9, 10, 11, 12, 13, 14, 15, 16, 17, 18, 19, 20, 21, 23, 24, 25, 26, 27, 28] 3 [(31 : Nat) = (31 : Nat) ∧ (4 : Nat) = (4 : Nat) ∧ (4 : Nat) = (4 : Nat) ∧ roomOK ((0 : Nat) + List.length l) (32 : Nat), (0 : Nat) + (4 : Nat) ≤ (4 : Nat), (31 : Nat) = (31 : Nat) ∧ (4 : Nat) = (4 : Nat) ∧ (4 : Nat) = (4 : Nat) ∧ roomOK ((0 : Nat) + List.length l + (1 : Nat)) (32 : Nat)] (by kernel_rfl) (by (first | omega | assumption | exact ⟨rfl, trivial⟩ | simp only [AllP, inK_iff, roomOK_iff, decide_eq_true_eq, Bool.and_eq_true, Bool.or_eq_true, Bool.not_eq_true', decide_eq_false_iff_not, and_true, true_and]; (first | omega | (and_intros <;> intros <;> (try and_intros) <;> first | omega | assumption | exact trivial)))) ?_
        refine good_run 1 (obs := []) (by kernel_rfl) trivial ?_
        refine good_fin [(0 : Nat) + List.length l + (1 : Nat) = List.length (l ++ [b], (0 : Int)).fst ∧ ∀ (i : Nat), i < (0 : Nat) + List.length l + (1 : Nat) → joinGet ((0 : Nat) + List.length l) (joinGet (0 : Nat) (cutRows (4 : Nat) []) fun i => Bk.cells (List.getD l i default)) (cutRows (4 : Nat) [SV.int IntKind.i64 b.ID, SV.int IntKind.i64 b.Rd, SV.int IntKind.i64 b.F, SV.int IntKind.i64 b.U]) i = (fun i => Bk.cells (List.getD (l ++ [b], (0 : Int)).fst i default)) i, (0 : Int) = (0 : Int)] (by kernel_rfl) ⟨?_, rfl, trivial⟩
        rotate_left 1
        refine good_run 2 (obs := [(0 : Nat) + (4 : Nat) ≤ (4 : Nat)]) (by kernel_rfl) (by (first | omega | assumption | exact ⟨rfl, trivial⟩ | simp only [AllP, inK_iff, roomOK_iff, decide_eq_true_eq, Bool.and_eq_true, Bool.or_eq_true, Bool.not_eq_true', decide_eq_false_iff_not, and_true, true_and]; (first | omega | (and_intros <;> intros <;> (try and_intros) <;> first | omega | assumption | exact trivial)))) ?_
        refine good_pick [0, 4] (by kernel_rfl) ⟨?_, ?_, trivial⟩
        refine good_run 2 (obs := []) (by kernel_rfl) trivial ?_
        refine good_all [0, 1, 2, 5, 6, 7, 8, 9, 10, 11, 12, 13, 14, 15, 16, 17, 18, 19, 20, 21, 23, 24, 25, 26, 27, 28] 2 [(31 : Nat) = (31 : Nat) ∧ (4 : Nat) = (4 : Nat) ∧ (4 : Nat) = (4 : Nat) ∧ roomOK ((0 : Nat) + List.length l) (32 : Nat), (31 : Nat) = (31 : Nat) ∧ (4 : Nat) = (4 : Nat) ∧ (4 : Nat) = (4 : Nat) ∧ roomOK ((0 : Nat) + List.length l + (1 : Nat)) (32 : Nat)] (by kernel_rfl) (by (first | omega | assumption | exact ⟨rfl, trivial⟩ | simp only [AllP, inK_iff, roomOK_iff, decide_eq_true_eq, Bool.and_eq_true, Bool.or_eq_true, Bool.not_eq_true', decide_eq_false_iff_not, and_true, true_and]; (first | omega | (and_intros <;> intros <;> (try and_intros) <;> first | omega | assumption | exact trivial)))) ?_
        refine good_run 1 (obs := []) (by kernel_rfl) trivial ?_
        refine good_fin [(0 : Nat) + List.length l + (1 : Nat) = List.length (l ++ [b], (0 : Int)).fst ∧ ∀ (i : Nat), i < (0 : Nat) + List.length l + (1 : Nat) → joinGet ((0 : Nat) + List.length l) (joinGet (0 : Nat) (cutRows (4 : Nat) []) fun i => Bk.cells (List.getD l i default)) (cutRows (4 : Nat) [SV.int IntKind.i64 b.ID, SV.int IntKind.i64 b.Rd, SV.int IntKind.i64 b.F, SV.int IntKind.i64 b.U]) i = (fun i => Bk.cells (List.getD (l ++ [b], (0 : Int)).fst i default)) i, (0 : Int) = (0 : Int)] (by kernel_rfl) ⟨?_, rfl, trivial⟩
        rotate_left 1
        refine good_run 20 (obs := [(31 : Nat) = (31 : Nat) ∧ (4 : Nat) = (4 : Nat) ∧ (4 : Nat) = (4 : Nat) ∧ roomOK ((0 : Nat) + List.length l) (32 : Nat), (31 : Nat) = (31 : Nat) ∧ (4 : Nat) = (4 : Nat) ∧ (4 : Nat) = (4 : Nat) ∧ roomOK ((0 : Nat) + List.length l + (1 : Nat)) (32 : Nat)]) (by kernel_rfl) (by (first | omega | assumption | exact ⟨rfl, trivial⟩ | simp only [AllP, inK_iff, roomOK_iff, decide_eq_true_eq, Bool.and_eq_true, Bool.or_eq_true, Bool.not_eq_true', decide_eq_false_iff_not, and_true, true_and]; (first | omega | (and_intros <;> intros <;> (try and_intros) <;> first | omega | assumption | exact trivial)))) ?_
        refine good_fin [(0 : Nat) + List.length l + (1 : Nat) = List.length (l ++ [b], (0 : Int)).fst ∧ ∀ (i : Nat), i < (0 : Nat) + List.length l + (1 : Nat) → joinGet ((0 : Nat) + List.length l) (joinGet (0 : Nat) (cutRows (4 : Nat) []) fun i => Bk.cells (List.getD l i default)) (cutRows (4 : Nat) [SV.int IntKind.i64 b.ID, SV.int IntKind.i64 b.Rd, SV.int IntKind.i64 b.F, SV.int IntKind.i64 b.U]) i = (fun i => Bk.cells (List.getD (l ++ [b], (0 : Int)).fst i default)) i, (0 : Int) = (0 : Int)] (by kernel_rfl) ⟨?_, rfl, trivial⟩
        rotate_left 1
        all_goals (rw [joinGet_zero, Nat.zero_add]; exact row_snoc' Bk.cells default l b 4 rfl)
end Go.Sx.T
