/- Contracts of functions of the program, each proved by running its code symbolically (PG). -/
import Derived.Test.YtjhimnlbgmlcdaaPF
namespace Go.Sx.T
open Go Go.Proofs Go.Sx
set_option maxRecDepth 100000
set_option maxHeartbeats 4000000
set_option linter.unusedVariables false
set_option linter.unusedSimpArgs false
theorem s20 (l : List Permit) (p : Permit) : Spec Try.prog 20 [permits l, p.sv] (.tup [permits (granted l p).1, .int .i64 (granted l p).2]) := by
  refine spec_of_good mixed Try.func20 F20_ok (by kernel_rfl) ?_
  refine good_run 11 (obs := []) (by kernel_rfl) trivial ?_
  refine good_call (c := True) (by kernel_rfl) (fun _ => SVles.refl _) (fun _ => s18 (l)) (by kernel_rfl) ?_
  refine good_run 3 (obs := []) (by kernel_rfl) trivial ?_
  refine good_cond (!decide (check l = (0 : Int))) (by kernel_rfl) (fun hc1 => ?_) (fun hc1 => ?_)
  · have : granted l p = ([], 1) := by
      rw [granted]; simp at hc1; simp [hc1]
    rw [this]
    refine good_run 8 (obs := []) (by kernel_rfl) trivial ?_
    refine good_fin [(0 : Nat) = (0 : Nat), (1 : Int) = (1 : Int)] (by kernel_rfl) ⟨rfl, rfl, trivial⟩
  · have hc : check l = 0 := by simpa using hc1
    have hl := check_len hc
    have hl1 : ((l.length : Int) - 1).toNat = l.length - 1 := by omega
    refine good_run 5 (obs := [(0 : Nat) + (6 : Nat) ≤ (6 : Nat)]) (by kernel_rfl) (by (first | omega | assumption | exact ⟨rfl, trivial⟩ | simp only [AllP, inK_iff, roomOK_iff, decide_eq_true_eq, Bool.and_eq_true, Bool.or_eq_true, Bool.not_eq_true', decide_eq_false_iff_not, and_true, true_and]; (first | omega | (and_intros <;> intros <;> (try and_intros) <;> first | omega | assumption | exact trivial)))) ?_
    refine good_call (c := True) (by kernel_rfl) (fun _ => SVles.refl _) (fun _ => s38 (p)) (by kernel_rfl) ?_
    refine good_run 3 (obs := []) (by kernel_rfl) trivial ?_
    refine good_cond (!formedB p) (by kernel_rfl) (fun hc2 => ?_) (fun hc2 => ?_)
    · have : granted l p = ([], 2) := by
        rw [granted]; simp at hc2; simp [hc, hc2]
      rw [this]
      refine good_run 8 (obs := []) (by kernel_rfl) trivial ?_
      refine good_fin [(0 : Nat) = (0 : Nat), (2 : Int) = (2 : Int)] (by kernel_rfl) ⟨rfl, rfl, trivial⟩
    · have hf : formedB p = true := by simpa using hc2
      refine good_run 21 (obs := [decide ((0 : Int) < (↑(List.length l) : Int)) = true ∧ True → InK IntKind.i64 ((↑(List.length l) : Int) - (1 : Int)), decide ((0 : Int) < (↑(List.length l) : Int)) = true ∧ True → (6 : Nat) = (6 : Nat) ∧ (0 : Int) ≤ (↑(List.length l) : Int) - (1 : Int) ∧ (↑(List.length l) : Int) - (1 : Int) < (↑(List.length l) : Int)]) (by kernel_rfl) (by (first | omega | assumption | exact ⟨rfl, trivial⟩ | simp only [AllP, inK_iff, roomOK_iff, decide_eq_true_eq, Bool.and_eq_true, Bool.or_eq_true, Bool.not_eq_true', decide_eq_false_iff_not, and_true, true_and]; (first | omega | (and_intros <;> intros <;> (try and_intros) <;> first | omega | assumption | exact trivial)))) ?_
      refine good_cond (decide ((0 : Int) < (↑(List.length l) : Int)) && decide (p.ID ≤ (List.getD l (Int.toNat ((↑(List.length l) : Int) - (1 : Int))) default).ID)) (by kernel_rfl) (fun hc3 => ?_) (fun hc3 => ?_)
      · rw [hl1] at hc3
        have : granted l p = ([], 5) := by
          rw [granted, hf]; simp only [hc]
          have e : decide ((0 : Int) < (l.length : Int)) = decide (0 < l.length) := decide_eq_decide.2 (by omega)
          rw [e] at hc3
          rw [hc3]; rfl
        rw [this]
        refine good_run 8 (obs := []) (by kernel_rfl) trivial ?_
        refine good_fin [(0 : Nat) = (0 : Nat), (5 : Int) = (5 : Int)] (by kernel_rfl) ⟨rfl, rfl, trivial⟩
      · rw [hl1] at hc3
        have e : decide ((0 : Int) < (l.length : Int)) = decide (0 < l.length) := decide_eq_decide.2 (by omega)
        rw [e] at hc3
        refine good_run 9 (obs := []) (by kernel_rfl) trivial ?_
        refine good_cond (decide ((↑(List.length l) : Int) = (64 : Int))) (by kernel_rfl) (fun hc4 => ?_) (fun hc4 => ?_)
        · have : granted l p = ([], 12) := by
            rw [granted, hf, hc3]; simp [hc]; simp at hc4; omega
          rw [this]
          refine good_run 8 (obs := []) (by kernel_rfl) trivial ?_
          refine good_fin [(0 : Nat) = (0 : Nat), (12 : Int) = (12 : Int)] (by kernel_rfl) ⟨rfl, rfl, trivial⟩
        · have hlt : l.length < 64 := by simp at hc4; omega
          have : granted l p = (l ++ [p], 0) := by
            rw [granted, hf, hc3]; simp [hc]; omega
          rw [this]
          refine good_run 5 (obs := []) (by kernel_rfl) trivial ?_
          refine good_pick [0, 3] (by kernel_rfl) ⟨?_, ?_, trivial⟩
          refine good_run 2 (obs := []) (by kernel_rfl) trivial ?_
          refine good_all [0, 1, 3, 4, 5, 6, 7, 8, 9, 10, 11, 12, 13, 14, 15, 16, 17, 18, 19, 20, 21, 22, 23, 24, 25, 26, 27, 28, 29, 30, 31, 32, 33, 34, 35] 3 [(31 : Nat) = (31 : Nat) ∧ (6 : Nat) = (6 : Nat) ∧ (6 : Nat) = (6 : Nat) ∧ roomOK ((0 : Nat) + List.length l) (48 : Nat), (0 : Nat) + (6 : Nat) ≤ (6 : Nat), (31 : Nat) = (31 : Nat) ∧ (6 : Nat) = (6 : Nat) ∧ (6 : Nat) = (6 : Nat) ∧ roomOK ((0 : Nat) + List.length l + (1 : Nat)) (48 : Nat)] (by kernel_rfl) (by (first | omega | assumption | exact ⟨rfl, trivial⟩ | simp only [AllP, inK_iff, roomOK_iff, decide_eq_true_eq, Bool.and_eq_true, Bool.or_eq_true, Bool.not_eq_true', decide_eq_false_iff_not, and_true, true_and]; (first | omega | (and_intros <;> intros <;> (try and_intros) <;> first | omega | assumption | exact trivial)))) ?_
          refine good_run 1 (obs := []) (by kernel_rfl) trivial ?_
          refine good_fin [(0 : Nat) + List.length l + (1 : Nat) = List.length (l ++ [p], (0 : Int)).fst ∧ ∀ (i : Nat), i < (0 : Nat) + List.length l + (1 : Nat) → joinGet ((0 : Nat) + List.length l) (joinGet (0 : Nat) (cutRows (6 : Nat) []) fun i => Permit.cells (List.getD l i default)) (cutRows (6 : Nat) [SV.int IntKind.i64 p.ID, SV.int IntKind.i64 p.Reader, SV.int IntKind.i64 p.Unit, SV.int IntKind.i64 p.Kinds, SV.int IntKind.i64 p.From, SV.int IntKind.i64 p.Until]) i = (fun i => Permit.cells (List.getD (l ++ [p], (0 : Int)).fst i default)) i, (0 : Int) = (0 : Int)] (by kernel_rfl) ⟨?_, rfl, trivial⟩
          rotate_left 1
          refine good_run 2 (obs := [(0 : Nat) + (6 : Nat) ≤ (6 : Nat)]) (by kernel_rfl) (by (first | omega | assumption | exact ⟨rfl, trivial⟩ | simp only [AllP, inK_iff, roomOK_iff, decide_eq_true_eq, Bool.and_eq_true, Bool.or_eq_true, Bool.not_eq_true', decide_eq_false_iff_not, and_true, true_and]; (first | omega | (and_intros <;> intros <;> (try and_intros) <;> first | omega | assumption | exact trivial)))) ?_
          refine good_pick [0, 4] (by kernel_rfl) ⟨?_, ?_, trivial⟩
          refine good_run 2 (obs := []) (by kernel_rfl) trivial ?_
          refine good_all [0, 1, 3, 4, 5, 6, 7, 8, 9, 10, 11, 12, 13, 14, 15, 16, 17, 18, 19, 20, 21, 22, 23, 24, 25, 26, 27, 28, 29, 30, 31, 32, 33, 34, 35] 2 [(31 : Nat) = (31 : Nat) ∧ (6 : Nat) = (6 : Nat) ∧ (6 : Nat) = (6 : Nat) ∧ roomOK ((0 : Nat) + List.length l) (48 : Nat), (31 : Nat) = (31 : Nat) ∧ (6 : Nat) = (6 : Nat) ∧ (6 : Nat) = (6 : Nat) ∧ roomOK ((0 : Nat) + List.length l + (1 : Nat)) (48 : Nat)] (by kernel_rfl) (by (first | omega | assumption | exact ⟨rfl, trivial⟩ | simp only [AllP, inK_iff, roomOK_iff, decide_eq_true_eq, Bool.and_eq_true, Bool.or_eq_true, Bool.not_eq_true', decide_eq_false_iff_not, and_true, true_and]; (first | omega | (and_intros <;> intros <;> (try and_intros) <;> first | omega | assumption | exact trivial)))) ?_
          refine good_run 1 (obs := []) (by kernel_rfl) trivial ?_
          refine good_fin [(0 : Nat) + List.length l + (1 : Nat) = List.length (l ++ [p], (0 : Int)).fst ∧ ∀ (i : Nat), i < (0 : Nat) + List.length l + (1 : Nat) → joinGet ((0 : Nat) + List.length l) (joinGet (0 : Nat) (cutRows (6 : Nat) []) fun i => Permit.cells (List.getD l i default)) (cutRows (6 : Nat) [SV.int IntKind.i64 p.ID, SV.int IntKind.i64 p.Reader, SV.int IntKind.i64 p.Unit, SV.int IntKind.i64 p.Kinds, SV.int IntKind.i64 p.From, SV.int IntKind.i64 p.Until]) i = (fun i => Permit.cells (List.getD (l ++ [p], (0 : Int)).fst i default)) i, (0 : Int) = (0 : Int)] (by kernel_rfl) ⟨?_, rfl, trivial⟩
          rotate_left 1
          refine good_run 20 (obs := [(31 : Nat) = (31 : Nat) ∧ (6 : Nat) = (6 : Nat) ∧ (6 : Nat) = (6 : Nat) ∧ roomOK ((0 : Nat) + List.length l) (48 : Nat), (31 : Nat) = (31 : Nat) ∧ (6 : Nat) = (6 : Nat) ∧ (6 : Nat) = (6 : Nat) ∧ roomOK ((0 : Nat) + List.length l + (1 : Nat)) (48 : Nat)]) (by kernel_rfl) (by (first | omega | assumption | exact ⟨rfl, trivial⟩ | simp only [AllP, inK_iff, roomOK_iff, decide_eq_true_eq, Bool.and_eq_true, Bool.or_eq_true, Bool.not_eq_true', decide_eq_false_iff_not, and_true, true_and]; (first | omega | (and_intros <;> intros <;> (try and_intros) <;> first | omega | assumption | exact trivial)))) ?_
          refine good_fin [(0 : Nat) + List.length l + (1 : Nat) = List.length (l ++ [p], (0 : Int)).fst ∧ ∀ (i : Nat), i < (0 : Nat) + List.length l + (1 : Nat) → joinGet ((0 : Nat) + List.length l) (joinGet (0 : Nat) (cutRows (6 : Nat) []) fun i => Permit.cells (List.getD l i default)) (cutRows (6 : Nat) [SV.int IntKind.i64 p.ID, SV.int IntKind.i64 p.Reader, SV.int IntKind.i64 p.Unit, SV.int IntKind.i64 p.Kinds, SV.int IntKind.i64 p.From, SV.int IntKind.i64 p.Until]) i = (fun i => Permit.cells (List.getD (l ++ [p], (0 : Int)).fst i default)) i, (0 : Int) = (0 : Int)] (by kernel_rfl) ⟨?_, rfl, trivial⟩
          rotate_left 1
          all_goals
            refine ⟨by simp, fun i hi => ?_⟩
            have := (app_permit l p).2 i (by omega)
            simp only [Nat.zero_add] at *
            show joinGet l.length (joinGet 0 (cutRows 6 []) fun i => (l.getD i default).cells) (cutRows 6 p.cells) i = ((l ++ [p]).getD i default).cells
            rw [← this]
            unfold joinGet
            simp
def rv (id day : Int) : List Permit → List Permit → Int → List Permit × Int
  | [], out, e => if e ≠ 0 then ([], e) else (out, 0)
  | p :: r, out, e => if p.ID = id then (if day < 0 ∨ 1048575 < day then ([], 2) else if p.Until ≤ day then ([], 11) else if day ≤ p.From then rv id day r out 0 else rv id day r (out ++ [p.until day]) 0) else rv id day r (out ++ [p]) e
theorem t22 (l : List Permit) (id day : Int) : Spec Try.prog 22 [permits l, .int .i64 id, .int .i64 day] (.tup [permits (if check l ≠ 0 then ([], 1) else rv id day l [] 7).1, .int .i64 (if check l ≠ 0 then ([], 1) else rv id day l [] 7).2]) := by
  refine spec_of_good mixed Try.func22 F22_ok (by kernel_rfl) ?_
  refine good_run 10 (obs := []) (by kernel_rfl) trivial ?_
  refine good_call (c := True) (by kernel_rfl) (fun _ => SVles.refl _) (fun _ => s18 (l)) (by kernel_rfl) ?_
  refine good_run 3 (obs := []) (by kernel_rfl) trivial ?_
  refine good_cond (!decide (check l = (0 : Int))) (by kernel_rfl) (fun hc1 => ?_) (fun hc1 => ?_)
  · have : ¬ check l = 0 := by simpa using hc1
    simp only [this, ne_eq, not_false_eq_true, if_true]
    refine good_run 8 (obs := []) (by kernel_rfl) trivial ?_
    refine good_fin [(0 : Nat) = (0 : Nat), (1 : Int) = (1 : Int)] (by kernel_rfl) ⟨rfl, rfl, trivial⟩
  · have hc : check l = 0 := by simpa using hc1
    have hl := check_len hc
    simp only [hc, ne_eq, not_true_eq_false, if_false]
    refine good_run 20 (obs := []) (by kernel_rfl) trivial ?_
    refine good_loopJ (fun q : Nat × List Permit × Int => ⟨[(1, .sv (.int .i64 id)), (2, .sv (.int .i64 day)), (9, .sv (.int .i64 q.2.2)), (8, .own 0), (15, .sv (permits l)), (16, .sv (.int .i64 l.length)), (17, .sv (.int .i64 q.1))], [.row 31 6 q.2.1.length true fun i => (q.2.1.getD i default).cells]⟩) (fun q => q.1 ≤ l.length ∧ q.2.1.length ≤ q.1 ∧ rv id day (l.drop q.1) q.2.1 q.2.2 = rv id day l [] 7) (fun q => l.length - q.1) ((0, [], 7)) [(0 : Nat) = (0 : Nat), id = id, day = day, (7 : Int) = (7 : Int), List.length l = List.length l ∧ ∀ (i : Nat), i < List.length l → (fun i => Permit.cells (List.getD l i default)) i = (fun i => Permit.cells (List.getD l i default)) i, (↑(List.length l) : Int) = (↑(List.length l) : Int), (0 : Int) = (0 : Int)] (by kernel_rfl) (by kernel_rfl) ⟨rfl, rfl, rfl, rfl, ⟨rfl, fun _ _ => rfl⟩, rfl, rfl, trivial⟩ ?_ ?_
    · exact ⟨Nat.zero_le _, Nat.le_refl _, rfl⟩
    · rintro ⟨k, out, e⟩ ⟨hk, hol, hrv⟩
      simp only [] at hk hol hrv
      refine good_run 6 (obs := []) (by kernel_rfl) trivial ?_
      refine good_cond (decide ((↑k : Int) < (↑(List.length l) : Int))) (by kernel_rfl) (fun hc2 => ?_) (fun hc2 => ?_)
      · have hlt : k < l.length := by simp only [decide_eq_true_eq] at hc2; omega
        rw [drop_getD l k hlt, rv] at hrv
        refine good_run 20 (obs := [(6 : Nat) = (6 : Nat) ∧ (0 : Int) ≤ (↑k : Int) ∧ (↑k : Int) < (↑(List.length l) : Int), (0 : Nat) + (6 : Nat) ≤ (6 : Nat), (6 : Nat) = (6 : Nat) ∧ (0 : Nat) + (6 : Nat) ≤ (6 : Nat)]) (by kernel_rfl) (by (first | omega | assumption | exact ⟨rfl, trivial⟩ | simp only [AllP, inK_iff, roomOK_iff, decide_eq_true_eq, Bool.and_eq_true, Bool.or_eq_true, Bool.not_eq_true', decide_eq_false_iff_not, and_true, true_and]; (first | omega | (and_intros <;> intros <;> (try and_intros) <;> first | omega | assumption | exact trivial)))) ?_
        refine good_cond (decide ((List.getD l k default).ID = id)) (by kernel_rfl) (fun hc3 => ?_) (fun hc3 => ?_)
        · simp only [decide_eq_true_eq] at hc3
          rw [if_pos hc3] at hrv
          refine good_run 11 (obs := []) (by kernel_rfl) trivial ?_
          refine good_cond (decide (day < (0 : Int)) || decide ((1048575 : Int) < day)) (by kernel_rfl) (fun hc4 => ?_) (fun hc4 => ?_)
          · simp only [Bool.or_eq_true, decide_eq_true_eq] at hc4
            rw [if_pos hc4] at hrv
            rw [← hrv]
            refine good_run 11 (obs := []) (by kernel_rfl) trivial ?_
            refine good_leaveJ (by kernel_rfl) ?_
            refine good_run 2 (obs := []) (by kernel_rfl) trivial ?_
            refine good_fin [(0 : Nat) = (0 : Nat), (2 : Int) = (2 : Int)] (by kernel_rfl) ⟨rfl, rfl, trivial⟩
          · simp only [Bool.or_eq_false_iff, decide_eq_false_iff_not] at hc4
            rw [if_neg (by omega)] at hrv
            refine good_run 11 (obs := []) (by kernel_rfl) trivial ?_
            refine good_cond (decide ((List.getD l k default).Until ≤ day)) (by kernel_rfl) (fun hc5 => ?_) (fun hc5 => ?_)
            · simp only [decide_eq_true_eq] at hc5
              rw [if_pos hc5] at hrv
              rw [← hrv]
              refine good_run 11 (obs := []) (by kernel_rfl) trivial ?_
              refine good_leaveJ (by kernel_rfl) ?_
              refine good_run 2 (obs := []) (by kernel_rfl) trivial ?_
              refine good_fin [(0 : Nat) = (0 : Nat), (11 : Int) = (11 : Int)] (by kernel_rfl) ⟨rfl, rfl, trivial⟩
            · simp only [decide_eq_false_iff_not] at hc5
              rw [if_neg hc5] at hrv
              refine good_run 16 (obs := []) (by kernel_rfl) trivial ?_
              refine good_cond (decide (day ≤ (List.getD l k default).From)) (by kernel_rfl) (fun hc6 => ?_) (fun hc6 => ?_)
              · simp only [decide_eq_true_eq] at hc6
                rw [if_pos hc6] at hrv
                refine good_run 9 (obs := [InK IntKind.i64 ((↑k : Int) + (1 : Int))]) (by kernel_rfl) (by (first | omega | assumption | exact ⟨rfl, trivial⟩ | simp only [AllP, inK_iff, roomOK_iff, decide_eq_true_eq, Bool.and_eq_true, Bool.or_eq_true, Bool.not_eq_true', decide_eq_false_iff_not, and_true, true_and]; (first | omega | (and_intros <;> intros <;> (try and_intros) <;> first | omega | assumption | exact trivial)))) ?_
                refine good_backJ ((k + 1, out, 0)) [List.length (k, out, e).snd.fst = List.length (k + (1 : Nat), out, (0 : Int)).snd.fst ∧ ∀ (i : Nat), i < List.length (k, out, e).snd.fst → (fun i => Permit.cells (List.getD (k, out, e).snd.fst i default)) i = (fun i => Permit.cells (List.getD (k + (1 : Nat), out, (0 : Int)).snd.fst i default)) i, id = id, day = day, (0 : Int) = (0 : Int), List.length l = List.length l ∧ ∀ (i : Nat), i < List.length l → (fun i => Permit.cells (List.getD l i default)) i = (fun i => Permit.cells (List.getD l i default)) i, (↑(List.length l) : Int) = (↑(List.length l) : Int), (↑k : Int) + (1 : Int) = (↑(k + (1 : Nat)) : Int)] (by kernel_rfl) (by kernel_rfl) ⟨⟨rfl, fun _ _ => rfl⟩, rfl, rfl, rfl, ⟨rfl, fun _ _ => rfl⟩, rfl, (by omega), trivial⟩ ?_ ?_
                · exact ⟨hlt, Nat.le_succ_of_le hol, hrv⟩
                · show _ < _; omega
              · simp only [decide_eq_false_iff_not] at hc6
                rw [if_neg hc6] at hrv
                refine good_run 22 (obs := [(1 : Nat) = (1 : Nat) ∧ (5 : Nat) + (1 : Nat) ≤ (6 : Nat), (0 : Nat) + (6 : Nat) ≤ (6 : Nat), (31 : Nat) = (31 : Nat) ∧ (6 : Nat) = (6 : Nat) ∧ (6 : Nat) = (6 : Nat) ∧ roomOK (List.length (k, out, e).snd.fst + (1 : Nat)) (48 : Nat), InK IntKind.i64 ((↑k : Int) + (1 : Int))]) (by kernel_rfl) (by (first | omega | assumption | exact ⟨rfl, trivial⟩ | simp only [AllP, inK_iff, roomOK_iff, decide_eq_true_eq, Bool.and_eq_true, Bool.or_eq_true, Bool.not_eq_true', decide_eq_false_iff_not, and_true, true_and]; (first | omega | (and_intros <;> intros <;> (try and_intros) <;> first | omega | assumption | exact trivial)))) ?_
                refine good_backJ ((k + 1, out ++ [(l.getD k default).until day], 0)) [List.length (k, out, e).snd.fst + (1 : Nat) = List.length (k + (1 : Nat), out ++ [Permit.until (List.getD l k default) day], (0 : Int)).snd.fst ∧ ∀ (i : Nat), i < List.length (k, out, e).snd.fst + (1 : Nat) → joinGet (List.length (k, out, e).snd.fst) (fun i => Permit.cells (List.getD (k, out, e).snd.fst i default)) (cutRows (6 : Nat) [SV.int IntKind.i64 (List.getD l k default).ID, SV.int IntKind.i64 (List.getD l k default).Reader, SV.int IntKind.i64 (List.getD l k default).Unit, SV.int IntKind.i64 (List.getD l k default).Kinds, SV.int IntKind.i64 (List.getD l k default).From, SV.int IntKind.i64 day]) i = (fun i => Permit.cells (List.getD (k + (1 : Nat), out ++ [Permit.until (List.getD l k default) day], (0 : Int)).snd.fst i default)) i, id = id, day = day, (0 : Int) = (0 : Int), List.length l = List.length l ∧ ∀ (i : Nat), i < List.length l → (fun i => Permit.cells (List.getD l i default)) i = (fun i => Permit.cells (List.getD l i default)) i, (↑(List.length l) : Int) = (↑(List.length l) : Int), (↑k : Int) + (1 : Int) = (↑(k + (1 : Nat)) : Int)] (by kernel_rfl) (by kernel_rfl) ⟨?_, rfl, rfl, rfl, ⟨rfl, fun _ _ => rfl⟩, rfl, (by omega), trivial⟩ ?_ ?_
                · exact app_permit out ((l.getD k default).until day)
                · exact ⟨hlt, by simp; omega, hrv⟩
                · show _ < _; omega
        · simp only [decide_eq_false_iff_not] at hc3
          rw [if_neg hc3] at hrv
          refine good_run 15 (obs := [(0 : Nat) + (6 : Nat) ≤ (6 : Nat), (31 : Nat) = (31 : Nat) ∧ (6 : Nat) = (6 : Nat) ∧ (6 : Nat) = (6 : Nat) ∧ roomOK (List.length (k, out, e).snd.fst + (1 : Nat)) (48 : Nat), InK IntKind.i64 ((↑k : Int) + (1 : Int))]) (by kernel_rfl) (by (first | omega | assumption | exact ⟨rfl, trivial⟩ | simp only [AllP, inK_iff, roomOK_iff, decide_eq_true_eq, Bool.and_eq_true, Bool.or_eq_true, Bool.not_eq_true', decide_eq_false_iff_not, and_true, true_and]; (first | omega | (and_intros <;> intros <;> (try and_intros) <;> first | omega | assumption | exact trivial)))) ?_
          refine good_backJ ((k + 1, out ++ [l.getD k default], e)) [List.length (k, out, e).snd.fst + (1 : Nat) = List.length (k + (1 : Nat), out ++ [List.getD l k default], e).snd.fst ∧ ∀ (i : Nat), i < List.length (k, out, e).snd.fst + (1 : Nat) → joinGet (List.length (k, out, e).snd.fst) (fun i => Permit.cells (List.getD (k, out, e).snd.fst i default)) (cutRows (6 : Nat) [SV.int IntKind.i64 (List.getD l k default).ID, SV.int IntKind.i64 (List.getD l k default).Reader, SV.int IntKind.i64 (List.getD l k default).Unit, SV.int IntKind.i64 (List.getD l k default).Kinds, SV.int IntKind.i64 (List.getD l k default).From, SV.int IntKind.i64 (List.getD l k default).Until]) i = (fun i => Permit.cells (List.getD (k + (1 : Nat), out ++ [List.getD l k default], e).snd.fst i default)) i, id = id, day = day, e = e, List.length l = List.length l ∧ ∀ (i : Nat), i < List.length l → (fun i => Permit.cells (List.getD l i default)) i = (fun i => Permit.cells (List.getD l i default)) i, (↑(List.length l) : Int) = (↑(List.length l) : Int), (↑k : Int) + (1 : Int) = (↑(k + (1 : Nat)) : Int)] (by kernel_rfl) (by kernel_rfl) ⟨?_, rfl, rfl, rfl, ⟨rfl, fun _ _ => rfl⟩, rfl, (by omega), trivial⟩ ?_ ?_
          · exact app_permit out (l.getD k default)
          · exact ⟨hlt, by simp; omega, hrv⟩
          · show _ < _; omega
      · have hk' : k = l.length := by simp only [decide_eq_false_iff_not] at hc2; omega
        subst hk'
        rw [List.drop_length, rv] at hrv
        refine good_run 2 (obs := []) (by kernel_rfl) trivial ?_
        refine good_leaveJ (by kernel_rfl) ?_
        refine good_run 8 (obs := []) (by kernel_rfl) trivial ?_
        refine good_cond (!decide (e = (0 : Int))) (by kernel_rfl) (fun hc3 => ?_) (fun hc3 => ?_)
        · simp only [Bool.not_eq_true', decide_eq_false_iff_not] at hc3
          rw [if_pos hc3] at hrv
          rw [← hrv]
          refine good_run 9 (obs := []) (by kernel_rfl) trivial ?_
          refine good_fin [(0 : Nat) = (0 : Nat), e = e] (by kernel_rfl) ⟨rfl, rfl, trivial⟩
        · simp only [Bool.not_eq_false', decide_eq_true_eq] at hc3
          rw [if_neg (by simpa using hc3)] at hrv
          rw [← hrv]
          refine good_run 9 (obs := []) (by kernel_rfl) trivial ?_
          refine good_fin [List.length (List.length l, out, e).snd.fst = List.length (out, (0 : Int)).fst ∧ ∀ (i : Nat), i < List.length (List.length l, out, e).snd.fst → (fun i => Permit.cells (List.getD (List.length l, out, e).snd.fst i default)) i = (fun i => Permit.cells (List.getD (out, (0 : Int)).fst i default)) i, (0 : Int) = (0 : Int)] (by kernel_rfl) ⟨⟨rfl, fun _ _ => rfl⟩, rfl, trivial⟩
theorem chk_ids : ∀ (l : List Permit) (prev : Option Int), chk prev l = 0 → (∀ q, prev = some q → ∀ p ∈ l, q < p.ID) ∧ l.Pairwise (fun a b => a.ID < b.ID)
  | [], _, _ => by simp
  | p :: r, prev, h => by
    rw [chk] at h
    split at h
    · cases h
    · split at h
      · cases h
      · rename_i h1 h2
        obtain ⟨h3, h4⟩ := chk_ids r (some p.ID) h
        have h3' := h3 p.ID rfl
        refine ⟨fun q hq x hx => ?_, List.pairwise_cons.2 ⟨h3', h4⟩⟩
        subst hq
        simp only [prevB, decide_eq_true_eq] at h2
        rcases List.mem_cons.1 hx with rfl | hx
        · omega
        · have := h3' x hx; omega
theorem check_ids {l : List Permit} (h : check l = 0) : l.Pairwise (fun a b => a.ID < b.ID) := by
  rw [check] at h
  split at h
  · cases h
  · exact (chk_ids l none h).2
theorem rv_done (id day : Int) : ∀ (l out : List Permit), (∀ p ∈ l, p.ID ≠ id) → rv id day l out 0 = (out ++ l, 0)
  | [], out, _ => by simp [rv]
  | p :: r, out, h => by
    rw [rv, if_neg (h p (by simp)), rv_done id day r _ (fun q hq => h q (by simp [hq]))]
    simp
theorem rv_eq (id day : Int) : ∀ (l out : List Permit), l.Pairwise (fun a b => a.ID < b.ID) → rv id day l out 7 = match l.findIdx? (fun p => decide (p.ID = id)) with
    | none => ([], 7)
    | some i => if day < 0 ∨ 1048575 < day then ([], 2) else if (l.getD i default).Until ≤ day then ([], 11) else if day ≤ (l.getD i default).From then (out ++ l.eraseIdx i, 0) else (out ++ l.set i ((l.getD i default).until day), 0)
  | [], out, _ => by simp [rv]
  | p :: r, out, h => by
    obtain ⟨h1, h2⟩ := List.pairwise_cons.1 h
    rw [rv, List.findIdx?_cons]
    by_cases e : p.ID = id
    · have hd : decide (p.ID = id) = true := by simpa using e
      have hne : ∀ q ∈ r, q.ID ≠ id := fun q hq => by have := h1 q hq; omega
      rw [if_pos e, hd]
      simp only [if_true, List.getD_cons_zero, List.eraseIdx_zero, List.tail_cons, List.set_cons_zero]
      rw [rv_done _ _ _ _ hne, rv_done _ _ _ _ hne]
      simp
    · have hd : decide (p.ID = id) = false := by simpa using e
      rw [if_neg e, hd, rv_eq id day r (out ++ [p]) h2]
      simp only [Bool.false_eq_true, if_false]
      cases r.findIdx? (fun p => decide (p.ID = id)) with
      | none => rfl
      | some i => simp
theorem rv_revoked (l : List Permit) (id day : Int) : (if check l ≠ 0 then ([], 1) else rv id day l [] 7) = revoked l id day := by
  rw [revoked]
  by_cases h : check l = 0
  · simp only [h, ne_eq, not_true_eq_false, if_false]
    rw [rv_eq id day l [] (check_ids h)]
    cases l.findIdx? (fun p => decide (p.ID = id)) with
    | none => rfl
    | some i => simp
  · simp [h]
theorem s22 (l : List Permit) (id day : Int) : Spec Try.prog 22 [permits l, .int .i64 id, .int .i64 day] (.tup [permits (revoked l id day).1, .int .i64 (revoked l id day).2]) := by
  have := t22 l id day
  rwa [rv_revoked] at this
end Go.Sx.T
