/- Contracts of functions of the program, each proved by running its code symbolically (QO). -/
import Derived.Test.YtepkgkdbnoiieaaQN
namespace Go.Sx.T
open Go Go.Proofs Go.Sx
set_option maxRecDepth 100000
set_option maxHeartbeats 8000000
set_option linter.unusedVariables false
set_option linter.unusedSimpArgs false
theorem s50 (p : Int) (m : Shift) : Spec Try.prog 50 [.int .i64 p, .ref m.cells 0] (.bool (eqK m.Number p)) := by
  refine spec_of_good mixed Try.func50 F50_ok (by kernel_rfl) ?_
  refine good_run 15 (obs := []) (by kernel_rfl) trivial ?_
  refine good_fin [decide (p = m.Number) = eqK m.Number p] (by kernel_rfl) ⟨(by rfl), trivial⟩
def appOK (o : List Int) (m : Shift) : Int := if m.Number ∉ o ∨ m.Before ≠ 0 ∧ m.Before ∉ o then 7 else if m.Number = m.Before then 1 else 0
def restO (o : List Int) (m : Shift) : List Int := o.filter fun p => !eqK m.Number p
def placeO (o : List Int) (m : Shift) : Int := if findI (restO o m) (eqK m.Before) < 0 then ((restO o m).length : Int) else findI (restO o m) (eqK m.Before)
def appStep (o : List Int) (m : Shift) : List Int := (restO o m).insertIdx (placeO o m).toNat m.Number
theorem placeO_bd (o : List Int) (m : Shift) : 0 ≤ placeO o m ∧ placeO o m ≤ (restO o m).length := by
  unfold placeO
  split
  · omega
  · rename_i h
    rcases findI_cases (restO o m) (eqK m.Before) with ⟨e, _⟩ | ⟨k, hk, e, _⟩
    · rw [e] at h; exact absurd (show (-1 : Int) < 0 by decide) h
    · rw [e]; omega
theorem restO_le (o : List Int) (m : Shift) : (restO o m).length ≤ o.length := List.length_filter_le _ _
theorem appStep_len (o : List Int) (m : Shift) : (appStep o m).length = (restO o m).length + 1 := by
  have := placeO_bd o m
  unfold appStep
  rw [List.length_insertIdx, if_pos (by omega)]
def appF : List Int → List Shift → List Int × Int
  | o, [] => (o, 0)
  | o, m :: r => if appOK o m = 0 then appF (appStep o m) r else ([], appOK o m)
def applyL (l : List Int) (ms : List Shift) : List Int × Int := if chkL l = 0 then if 1024 < ms.length then ([], 8) else appF l ms else ([], chkL l)
structure ASt where
  k : Nat
  o : List Int
def mkA (k : Nat) (o : List Int) : ASt := ⟨k, o⟩
theorem s26 (l : List Int) (ms : List Shift) (hl : l.length ≤ 100000) : Spec Try.prog 26 [ints l, shifts ms] (.tup [ints (applyL l ms).1, .int .i64 (applyL l ms).2]) := by
  refine spec_len 1 rfl (hasBody_of_slim Try.func26 F26_ok) fun hlen => ?_
  refine spec_of_good mixed Try.func26 F26_ok (by kernel_rfl) ?_
  have h20 := s20 l hl
  refine good_run 10 (obs := []) (by kernel_rfl) trivial ?_
  refine good_call (c := True) (by kernel_rfl) (fun _ => SVles.refl _) (fun _ => s20 (l) (by (first | omega | assumption | exact ⟨rfl, trivial⟩ | simp only [AllP, inK_iff, roomOK_iff, decide_eq_true_eq, Bool.and_eq_true, Bool.or_eq_true, Bool.not_eq_true', decide_eq_false_iff_not, and_true, true_and]; (first | omega | (and_intros <;> intros <;> (try and_intros) <;> first | omega | assumption | exact trivial))))) (by kernel_rfl) ?_
  refine good_run 9 (obs := []) (by kernel_rfl) trivial ?_
  refine good_cond (!decide (chkL l = (0 : Int))) (by kernel_rfl) (fun hc1 => ?_) (fun hc1 => ?_)
  · have e : applyL l ms = ([], chkL l) := if_neg (by simpa using hc1)
    rw [e]
    refine good_run 9 (obs := []) (by kernel_rfl) trivial ?_
    refine good_fin [(0 : Nat) = (0 : Nat), chkL l = chkL l] (by kernel_rfl) ⟨rfl, rfl, trivial⟩
  · have hc : chkL l = 0 := by simpa using hc1
    have e : applyL l ms = if 1024 < ms.length then ([], 8) else appF l ms := if_pos hc
    obtain ⟨h1, h2, h3, h4⟩ := chk_pos hc
    have h14 := s14 l.length (fun i => [.int .i64 (l.getD i 0)]) hl
    rw [e]
    refine good_run 9 (obs := []) (by kernel_rfl) trivial ?_
    refine good_cond (decide ((1024 : Int) < (↑(List.length ms) : Int))) (by kernel_rfl) (fun hc2 => ?_) (fun hc2 => ?_)
    · rw [if_pos (by simp only [decide_eq_true_eq] at hc2; omega)]
      refine good_run 8 (obs := []) (by kernel_rfl) trivial ?_
      refine good_fin [(0 : Nat) = (0 : Nat), (8 : Int) = (8 : Int)] (by kernel_rfl) ⟨rfl, rfl, trivial⟩
    · have hms : ms.length ≤ 1024 := by simp only [decide_eq_false_iff_not] at hc2; omega
      rw [if_neg (by omega)]
      refine good_run 4 (obs := []) (by kernel_rfl) trivial ?_
      refine good_own (c := True) (by kernel_rfl) (by kernel_rfl) (SVles.refl _) (s14 (List.length l) (fun i => [SV.int IntKind.i64 (List.getD l i (0 : Int))]) (by (first | omega | assumption | exact ⟨rfl, trivial⟩ | simp only [AllP, inK_iff, roomOK_iff, decide_eq_true_eq, Bool.and_eq_true, Bool.or_eq_true, Bool.not_eq_true', decide_eq_false_iff_not, and_true, true_and]; (first | omega | (and_intros <;> intros <;> (try and_intros) <;> first | omega | assumption | exact trivial))))) ?_
      refine good_run 12 (obs := []) (by kernel_rfl) trivial ?_
      refine good_loopJ (fun q : ASt => ⟨[(23, .sv (.int .i64 (q.k))), (22, LV.sv (SV.int IntKind.i64 (↑(List.length ms) : Int))), (21, LV.sv (SV.lst (2 : Nat) (List.length ms) fun i => Shift.cells (List.getD ms i default))), (7, LV.own (0 : Nat))], [.row 3 1 q.o.length true fun i => [.int .i64 (q.o.getD i 0)]]⟩) (fun q => q.k ≤ ms.length ∧ q.o.length ≤ l.length + q.k ∧ appF q.o (ms.drop q.k) = appF l ms) (fun q => ms.length - q.k) (mkA 0 l) [List.length l = List.length (mkA (0 : Nat) l).o ∧ ∀ (i : Nat), i < List.length l → (fun i => [SV.int IntKind.i64 (List.getD l i (0 : Int))]) i = (fun i => [SV.int IntKind.i64 (List.getD (mkA (0 : Nat) l).o i (0 : Int))]) i, (0 : Int) = (↑(mkA (0 : Nat) l).k : Int), (↑(List.length ms) : Int) = (↑(List.length ms) : Int), List.length ms = List.length ms ∧ ∀ (i : Nat), i < List.length ms → (fun i => Shift.cells (List.getD ms i default)) i = (fun i => Shift.cells (List.getD ms i default)) i] (by kernel_rfl) (by kernel_rfl) ⟨?_, (by rfl), rfl, ⟨rfl, fun _ _ => rfl⟩, trivial⟩ ?_ ?_
      · exact ⟨rfl, fun _ _ => rfl⟩
      · exact ⟨Nat.zero_le _, Nat.le_refl _, by rw [show (mkA 0 l).k = 0 from rfl, List.drop_zero]; rfl⟩
      rintro q ⟨hk, hol, he⟩
      refine good_run 6 (obs := []) (by kernel_rfl) trivial ?_
      refine good_cond (decide ((↑q.k : Int) < (↑(List.length ms) : Int))) (by kernel_rfl) (fun hc3 => ?_) (fun hc3 => ?_)
      · have hlt : q.k < ms.length := by simp only [decide_eq_true_eq] at hc3; omega
        rw [drop_getD (d := default) ms q.k hlt, appF] at he
        refine good_run 18 (obs := [(2 : Nat) = (2 : Nat) ∧ (0 : Int) ≤ (↑q.k : Int) ∧ (↑q.k : Int) < (↑(List.length ms) : Int), (0 : Nat) + (2 : Nat) ≤ (2 : Nat), (2 : Nat) = (2 : Nat) ∧ (0 : Nat) + (2 : Nat) ≤ (2 : Nat)]) (by kernel_rfl) (by (first | omega | assumption | exact ⟨rfl, trivial⟩ | simp only [AllP, inK_iff, roomOK_iff, decide_eq_true_eq, Bool.and_eq_true, Bool.or_eq_true, Bool.not_eq_true', decide_eq_false_iff_not, and_true, true_and]; (first | omega | (and_intros <;> intros <;> (try and_intros) <;> first | omega | assumption | exact trivial)))) ?_
        refine good_call (c := True) (by kernel_rfl) (fun _ => SVles.refl _) (fun _ => s33 (q.o) ((List.getD ms q.k default).Number)) (by kernel_rfl) ?_
        refine good_run 10 (obs := []) (by kernel_rfl) trivial ?_
        refine good_call (c := (!decide ((List.getD ms q.k default).Before = (0 : Int))) = true ∧ (!decide ((List.getD ms q.k default).Number ∈ q.o)) = false ∧ True) (by kernel_rfl) (fun _ => SVles.refl _) (fun _ => s33 (q.o) ((List.getD ms q.k default).Before)) (by kernel_rfl) ?_
        refine good_run 7 (obs := []) (by kernel_rfl) trivial ?_
        refine good_cond (!decide ((List.getD ms q.k default).Number ∈ q.o) || !decide ((List.getD ms q.k default).Before = (0 : Int)) && !decide ((List.getD ms q.k default).Before ∈ q.o)) (by kernel_rfl) (fun hc4 => ?_) (fun hc4 => ?_)
        · have ha : appOK q.o (ms.getD q.k default) = 7 := by
            unfold appOK
            rw [if_pos]
            simpa using hc4
          rw [if_neg (by rw [ha]; decide), ha] at he
          rw [← he]
          refine good_run 11 (obs := []) (by kernel_rfl) trivial ?_
          refine good_leaveJ (by kernel_rfl) ?_
          refine good_run 2 (obs := []) (by kernel_rfl) trivial ?_
          refine good_fin [(0 : Nat) = (0 : Nat), (7 : Int) = (7 : Int)] (by kernel_rfl) ⟨rfl, rfl, trivial⟩
        · have hn : ¬ ((ms.getD q.k default).Number ∉ q.o ∨ (ms.getD q.k default).Before ≠ 0 ∧ (ms.getD q.k default).Before ∉ q.o) := by
            intro h
            have h2 : (!decide ((ms.getD q.k default).Number ∈ q.o) || !decide ((ms.getD q.k default).Before = 0) && !decide ((ms.getD q.k default).Before ∈ q.o)) = true := by simpa using h
            rw [h2] at hc4
            cases hc4
          refine good_run 10 (obs := []) (by kernel_rfl) trivial ?_
          refine good_cond (decide ((List.getD ms q.k default).Number = (List.getD ms q.k default).Before)) (by kernel_rfl) (fun hc5 => ?_) (fun hc5 => ?_)
          · have ha : appOK q.o (ms.getD q.k default) = 1 := by
              unfold appOK
              rw [if_neg hn, if_pos (by simpa using hc5)]
            rw [if_neg (by rw [ha]; decide), ha] at he
            rw [← he]
            refine good_run 11 (obs := []) (by kernel_rfl) trivial ?_
            refine good_leaveJ (by kernel_rfl) ?_
            refine good_run 2 (obs := []) (by kernel_rfl) trivial ?_
            refine good_fin [(0 : Nat) = (0 : Nat), (1 : Int) = (1 : Int)] (by kernel_rfl) ⟨rfl, rfl, trivial⟩
          · have ha : appOK q.o (ms.getD q.k default) = 0 := by
              unfold appOK
              rw [if_neg hn, if_neg (by simpa using hc5)]
            rw [if_pos ha] at he
            have c49 : SpecTake Try.prog 49 [] 3 1 q.o.length (fun i => [SV.int .i64 (q.o.getD i 0)]) [.fn 50 [.ref (ms.getD q.k default).cells 0]] (restO q.o (ms.getD q.k default)).length (fun i => [SV.int .i64 ((restO q.o (ms.getD q.k default)).getD i 0)]) := s49 q.o 50 [.ref (ms.getD q.k default).cells 0] (eqK (ms.getD q.k default).Number) (fun p => s50 p (ms.getD q.k default)) (by omega)
            have hle := restO_le q.o (ms.getD q.k default)
            have hpb := placeO_bd q.o (ms.getD q.k default)
            have hsl := appStep_len q.o (ms.getD q.k default)
            have h37 := s37 (restO q.o (ms.getD q.k default)) (ms.getD q.k default).Before
            have c47 := s47 (restO q.o (ms.getD q.k default)).length (fun i => [.int .i64 ((restO q.o (ms.getD q.k default)).getD i 0)]) (fun _ => [.int .i64 (ms.getD q.k default).Number]) (placeO q.o (ms.getD q.k default)) hpb.1 hpb.2 (by omega)
            have hpd : placeO q.o (ms.getD q.k default) = if findI (restO q.o (ms.getD q.k default)) (eqK (ms.getD q.k default).Before) < 0 then ((restO q.o (ms.getD q.k default)).length : Int) else findI (restO q.o (ms.getD q.k default)) (eqK (ms.getD q.k default).Before) := rfl
            refine good_run 6 (obs := []) (by kernel_rfl) trivial ?_
            refine good_take (by kernel_rfl) (SVles.refl _) (SVles.refl _) (c49) ?_
            refine good_run 8 (obs := []) (by kernel_rfl) trivial ?_
            refine good_call (c := True) (by kernel_rfl) (fun _ => SVles.refl _) (fun _ => s37 (restO q.o (List.getD ms q.k default)) ((List.getD ms q.k default).Before)) (by kernel_rfl) ?_
            refine good_run 10 (obs := []) (by kernel_rfl) trivial ?_
            refine good_cond (decide (findI (restO q.o (List.getD ms q.k default)) (eqK (List.getD ms q.k default).Before) < (0 : Int))) (by kernel_rfl) (fun hc6 => ?_) (fun hc6 => ?_)
            · rw [if_pos (by simpa using hc6)] at hpd
              rw [hpd] at c47
              refine good_run 12 (obs := []) (by kernel_rfl) trivial ?_
              refine good_take (by kernel_rfl) (SVles.refl _) (SVles.refl _) (s47 (List.length (restO q.o (List.getD ms q.k default))) (fun i => [SV.int IntKind.i64 (List.getD (restO q.o (List.getD ms q.k default)) i (0 : Int))]) (cutRows (1 : Nat) [SV.int IntKind.i64 (List.getD ms q.k default).Number]) ((↑(List.length (restO q.o (List.getD ms q.k default))) : Int)) (by (first | omega | assumption | exact ⟨rfl, trivial⟩ | simp only [AllP, inK_iff, roomOK_iff, decide_eq_true_eq, Bool.and_eq_true, Bool.or_eq_true, Bool.not_eq_true', decide_eq_false_iff_not, and_true, true_and]; (first | omega | (and_intros <;> intros <;> (try and_intros) <;> first | omega | assumption | exact trivial)))) (by (first | omega | assumption | exact ⟨rfl, trivial⟩ | simp only [AllP, inK_iff, roomOK_iff, decide_eq_true_eq, Bool.and_eq_true, Bool.or_eq_true, Bool.not_eq_true', decide_eq_false_iff_not, and_true, true_and]; (first | omega | (and_intros <;> intros <;> (try and_intros) <;> first | omega | assumption | exact trivial)))) (by (first | omega | assumption | exact ⟨rfl, trivial⟩ | simp only [AllP, inK_iff, roomOK_iff, decide_eq_true_eq, Bool.and_eq_true, Bool.or_eq_true, Bool.not_eq_true', decide_eq_false_iff_not, and_true, true_and]; (first | omega | (and_intros <;> intros <;> (try and_intros) <;> first | omega | assumption | exact trivial))))) ?_
              refine good_run 9 (obs := [InK IntKind.i64 ((↑q.k : Int) + (1 : Int))]) (by kernel_rfl) (by (first | omega | assumption | exact ⟨rfl, trivial⟩ | simp only [AllP, inK_iff, roomOK_iff, decide_eq_true_eq, Bool.and_eq_true, Bool.or_eq_true, Bool.not_eq_true', decide_eq_false_iff_not, and_true, true_and]; (first | omega | (and_intros <;> intros <;> (try and_intros) <;> first | omega | assumption | exact trivial)))) ?_
              refine good_backJ (mkA (q.k + 1) (appStep q.o (ms.getD q.k default))) [List.length (restO q.o (List.getD ms q.k default)) + (1 : Nat) = List.length (mkA (q.k + (1 : Nat)) (appStep q.o (List.getD ms q.k default))).o ∧ ∀ (i : Nat), i < List.length (restO q.o (List.getD ms q.k default)) + (1 : Nat) → insGet (List.length (restO q.o (List.getD ms q.k default))) (cutRows (1 : Nat) [SV.int IntKind.i64 (List.getD ms q.k default).Number] (0 : Nat)) (fun i => [SV.int IntKind.i64 (List.getD (restO q.o (List.getD ms q.k default)) i (0 : Int))]) i = (fun i => [SV.int IntKind.i64 (List.getD (mkA (q.k + (1 : Nat)) (appStep q.o (List.getD ms q.k default))).o i (0 : Int))]) i, (↑q.k : Int) + (1 : Int) = (↑(mkA (q.k + (1 : Nat)) (appStep q.o (List.getD ms q.k default))).k : Int), (↑(List.length ms) : Int) = (↑(List.length ms) : Int), List.length ms = List.length ms ∧ ∀ (i : Nat), i < List.length ms → (fun i => Shift.cells (List.getD ms i default)) i = (fun i => Shift.cells (List.getD ms i default)) i] (by kernel_rfl) (by kernel_rfl) ⟨?_, (by rfl), rfl, ⟨rfl, fun _ _ => rfl⟩, trivial⟩ ?_ ?_
              · have hins := ints_ins (restO q.o (ms.getD q.k default)) (placeO q.o (ms.getD q.k default)).toNat (ms.getD q.k default).Number (by omega)
                rw [hpd] at hins
                refine ⟨hsl.symm, fun j hj => (hins.2 j hj).trans ?_⟩
                show _ = [SV.int .i64 ((appStep q.o (ms.getD q.k default)).getD j 0)]
                unfold appStep
                rw [hpd]
              · exact ⟨hlt, by show (appStep q.o (ms.getD q.k default)).length ≤ l.length + (q.k + 1); omega, he⟩
              · show ms.length - (q.k + 1) < _; omega
            · rw [if_neg (by simpa using hc6)] at hpd
              rw [hpd] at c47
              refine good_run 7 (obs := []) (by kernel_rfl) trivial ?_
              refine good_take (by kernel_rfl) (SVles.refl _) (SVles.refl _) (s47 (List.length (restO q.o (List.getD ms q.k default))) (fun i => [SV.int IntKind.i64 (List.getD (restO q.o (List.getD ms q.k default)) i (0 : Int))]) (cutRows (1 : Nat) [SV.int IntKind.i64 (List.getD ms q.k default).Number]) (findI (restO q.o (List.getD ms q.k default)) (eqK (List.getD ms q.k default).Before)) (by (first | omega | assumption | exact ⟨rfl, trivial⟩ | simp only [AllP, inK_iff, roomOK_iff, decide_eq_true_eq, Bool.and_eq_true, Bool.or_eq_true, Bool.not_eq_true', decide_eq_false_iff_not, and_true, true_and]; (first | omega | (and_intros <;> intros <;> (try and_intros) <;> first | omega | assumption | exact trivial)))) (by (first | omega | assumption | exact ⟨rfl, trivial⟩ | simp only [AllP, inK_iff, roomOK_iff, decide_eq_true_eq, Bool.and_eq_true, Bool.or_eq_true, Bool.not_eq_true', decide_eq_false_iff_not, and_true, true_and]; (first | omega | (and_intros <;> intros <;> (try and_intros) <;> first | omega | assumption | exact trivial)))) (by (first | omega | assumption | exact ⟨rfl, trivial⟩ | simp only [AllP, inK_iff, roomOK_iff, decide_eq_true_eq, Bool.and_eq_true, Bool.or_eq_true, Bool.not_eq_true', decide_eq_false_iff_not, and_true, true_and]; (first | omega | (and_intros <;> intros <;> (try and_intros) <;> first | omega | assumption | exact trivial))))) ?_
              refine good_run 9 (obs := [InK IntKind.i64 ((↑q.k : Int) + (1 : Int))]) (by kernel_rfl) (by (first | omega | assumption | exact ⟨rfl, trivial⟩ | simp only [AllP, inK_iff, roomOK_iff, decide_eq_true_eq, Bool.and_eq_true, Bool.or_eq_true, Bool.not_eq_true', decide_eq_false_iff_not, and_true, true_and]; (first | omega | (and_intros <;> intros <;> (try and_intros) <;> first | omega | assumption | exact trivial)))) ?_
              refine good_backJ (mkA (q.k + 1) (appStep q.o (ms.getD q.k default))) [List.length (restO q.o (List.getD ms q.k default)) + (1 : Nat) = List.length (mkA (q.k + (1 : Nat)) (appStep q.o (List.getD ms q.k default))).o ∧ ∀ (i : Nat), i < List.length (restO q.o (List.getD ms q.k default)) + (1 : Nat) → insGet (Int.toNat (findI (restO q.o (List.getD ms q.k default)) (eqK (List.getD ms q.k default).Before))) (cutRows (1 : Nat) [SV.int IntKind.i64 (List.getD ms q.k default).Number] (0 : Nat)) (fun i => [SV.int IntKind.i64 (List.getD (restO q.o (List.getD ms q.k default)) i (0 : Int))]) i = (fun i => [SV.int IntKind.i64 (List.getD (mkA (q.k + (1 : Nat)) (appStep q.o (List.getD ms q.k default))).o i (0 : Int))]) i, (↑q.k : Int) + (1 : Int) = (↑(mkA (q.k + (1 : Nat)) (appStep q.o (List.getD ms q.k default))).k : Int), (↑(List.length ms) : Int) = (↑(List.length ms) : Int), List.length ms = List.length ms ∧ ∀ (i : Nat), i < List.length ms → (fun i => Shift.cells (List.getD ms i default)) i = (fun i => Shift.cells (List.getD ms i default)) i] (by kernel_rfl) (by kernel_rfl) ⟨?_, (by rfl), rfl, ⟨rfl, fun _ _ => rfl⟩, trivial⟩ ?_ ?_
              · have hins := ints_ins (restO q.o (ms.getD q.k default)) (placeO q.o (ms.getD q.k default)).toNat (ms.getD q.k default).Number (by omega)
                rw [hpd] at hins
                refine ⟨hsl.symm, fun j hj => (hins.2 j hj).trans ?_⟩
                show _ = [SV.int .i64 ((appStep q.o (ms.getD q.k default)).getD j 0)]
                unfold appStep
                rw [hpd]
              · exact ⟨hlt, by show (appStep q.o (ms.getD q.k default)).length ≤ l.length + (q.k + 1); omega, he⟩
              · show ms.length - (q.k + 1) < _; omega
      · have : q.k = ms.length := by simp only [decide_eq_false_iff_not] at hc3; omega
        rw [this, List.drop_length, appF] at he
        rw [← he]
        refine good_run 2 (obs := []) (by kernel_rfl) trivial ?_
        refine good_leaveJ (by kernel_rfl) ?_
        refine good_run 9 (obs := []) (by kernel_rfl) trivial ?_
        refine good_fin [List.length q.o = List.length (q.o, (0 : Int)).fst ∧ ∀ (i : Nat), i < List.length q.o → (fun i => [SV.int IntKind.i64 (List.getD q.o i (0 : Int))]) i = (fun i => [SV.int IntKind.i64 (List.getD (q.o, (0 : Int)).fst i (0 : Int))]) i, (0 : Int) = (0 : Int)] (by kernel_rfl) ⟨⟨rfl, fun _ _ => rfl⟩, rfl, trivial⟩
end Go.Sx.T
