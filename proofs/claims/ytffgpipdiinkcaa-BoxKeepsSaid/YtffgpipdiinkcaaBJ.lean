/- Contracts of functions of the program, each proved by running its code symbolically (BJ). -/
import Derived.Test.YtffgpipdiinkcaaBI
namespace Go.Sx.T
open Go Go.Proofs Go.Sx
set_option maxRecDepth 100000
set_option maxHeartbeats 4000000
set_option linter.unusedVariables false
set_option linter.unusedSimpArgs false
theorem s24 (l : List Box) (u : Int) (hl : ∀ b ∈ l, b.Contents.length ≤ 100000) : Spec Try.prog 24 [boxes l, .int .i64 u] (.tup [boxes (takeB l u).1, (takeB l u).2.1.sv, .int .i64 (takeB l u).2.2]) := by
  refine spec_of_good mixed Try.func24 F24_ok (by kernel_rfl) ?_
  have hw := whereP_cases u l 0
  refine good_run 11 (obs := []) (by kernel_rfl) trivial ?_
  refine good_call (c := True) (by kernel_rfl) (fun _ => SVles.refl _) (fun _ => s18 (l)) (by kernel_rfl) ?_
  refine good_run 3 (obs := []) (by kernel_rfl) trivial ?_
  refine good_cond (!decide (check l = (0 : Int))) (by kernel_rfl) (fun hc1 => ?_) (fun hc1 => ?_)
  · simp only [Bool.not_eq_true', decide_eq_false_iff_not] at hc1
    have : takeB l u = ([], ⟨0, 0⟩, 1) := by rw [takeB, if_pos hc1]
    rw [this]
    refine good_run 10 (obs := [(2 : Nat) = (2 : Nat) ∧ (0 : Nat) + (2 : Nat) ≤ (2 : Nat)]) (by kernel_rfl) (by (first | omega | assumption | exact ⟨rfl, trivial⟩ | simp only [AllP, inK_iff, roomOK_iff, decide_eq_true_eq, Bool.and_eq_true, Bool.or_eq_true, Bool.not_eq_true', decide_eq_false_iff_not, and_true, true_and]; (first | omega | (and_intros <;> intros <;> (try and_intros) <;> first | omega | assumption | exact trivial)))) ?_
    refine good_fin [(0 : Nat) = (0 : Nat), (0 : Int) = (0 : Int), (0 : Int) = (0 : Int), (1 : Int) = (1 : Int)] (by kernel_rfl) ⟨rfl, rfl, rfl, rfl, trivial⟩
  · simp only [Bool.not_eq_false', decide_eq_true_eq] at hc1
    have hr := check_iff.1 hc1
    have hlen := hr.len
    have hwo := whereB_ok hc1 u
    refine good_run 5 (obs := []) (by kernel_rfl) trivial ?_
    refine good_call (c := True) (by kernel_rfl) (fun _ => SVles.refl _) (fun _ => s16 (l) (u)) (by kernel_rfl) ?_
    refine good_run 16 (obs := []) (by kernel_rfl) trivial ?_
    refine good_cond (!(whereB l u).snd.2) (by kernel_rfl) (fun hc2 => ?_) (fun hc2 => ?_)
    · simp only [Bool.not_eq_true'] at hc2
      rw [hwo, decide_eq_false_iff_not] at hc2
      have : takeB l u = ([], ⟨0, 0⟩, 7) := by rw [takeB, if_neg (fun h => h hc1), if_pos (by omega)]
      rw [this]
      refine good_run 10 (obs := [(2 : Nat) = (2 : Nat) ∧ (0 : Nat) + (2 : Nat) ≤ (2 : Nat)]) (by kernel_rfl) (by (first | omega | assumption | exact ⟨rfl, trivial⟩ | simp only [AllP, inK_iff, roomOK_iff, decide_eq_true_eq, Bool.and_eq_true, Bool.or_eq_true, Bool.not_eq_true', decide_eq_false_iff_not, and_true, true_and]; (first | omega | (and_intros <;> intros <;> (try and_intros) <;> first | omega | assumption | exact trivial)))) ?_
      refine good_fin [(0 : Nat) = (0 : Nat), (0 : Int) = (0 : Int), (0 : Int) = (0 : Int), (7 : Int) = (7 : Int)] (by kernel_rfl) ⟨rfl, rfl, rfl, rfl, trivial⟩
    · simp only [Bool.not_eq_false'] at hc2
      rw [hwo, decide_eq_true_eq] at hc2
      rcases hw with ⟨e, _⟩ | ⟨i, hi, e, e2, _⟩
      · rw [e] at hc2; simp at hc2
      rw [Nat.zero_add] at e
      obtain ⟨j, hj, ej⟩ : ∃ j : Nat, j < (l.getD i default).Contents.length ∧ findI (l.getD i default).Contents (uq u) = j := by
        rcases findI_cases (l.getD i default).Contents (uq u) with ⟨h, _⟩ | ⟨k, hk, h, _⟩
        · omega
        · exact ⟨k, hk, h⟩
      rw [ej] at e
      have : takeB l u = (withC l i ((l.getD i default).Contents.eraseIdx j), (l.getD i default).Contents.getD j default, 0) := by
        rw [takeB, if_neg (fun h => h hc1), if_neg (by omega)]
        simp only [e, Int.toNat_natCast]
      have hB : whereB l u = ((l.getD i default).ID, (j : Int), true) := by
        rw [whereB, e, if_neg (by simp only []; omega)]
        simp
      obtain ⟨f1, f2, f3⟩ := fault_zero.1 (hr.fault _ (getD_mem l default i hi))
      have s41 : Spec Try.prog 41 [boxes l, .int .i64 (l.getD i default).ID] (.int .i64 (i : Int)) := by
        rw [← asc_findI hr.asc i hi]; exact s41 _ _
      rw [this, hB]
      refine good_run 4 (obs := []) (by kernel_rfl) trivial ?_
      refine good_own (c := True) (by kernel_rfl) (by kernel_rfl) (SVles.refl _) (s13 (l) (by (first | omega | assumption | exact ⟨rfl, trivial⟩ | simp only [AllP, inK_iff, roomOK_iff, decide_eq_true_eq, Bool.and_eq_true, Bool.or_eq_true, Bool.not_eq_true', decide_eq_false_iff_not, and_true, true_and]; (first | omega | (and_intros <;> intros <;> (try and_intros) <;> first | omega | assumption | exact trivial)))) (by (first | omega | assumption | exact ⟨rfl, trivial⟩ | simp only [AllP, inK_iff, roomOK_iff, decide_eq_true_eq, Bool.and_eq_true, Bool.or_eq_true, Bool.not_eq_true', decide_eq_false_iff_not, and_true, true_and]; (first | omega | (and_intros <;> intros <;> (try and_intros) <;> first | omega | assumption | exact trivial))))) ?_
      refine good_run 8 (obs := []) (by kernel_rfl) trivial ?_
      refine good_call (c := True) (by kernel_rfl) (fun _ => SVles.refl _) (fun _ => s41) (by kernel_rfl) ?_
      refine good_run 30 (obs := [(5 : Nat) = (5 : Nat) ∧ (0 : Int) ≤ (↑i : Int) ∧ (↑i : Int) < (↑(List.length l) : Int), (0 : Nat) + (5 : Nat) ≤ (5 : Nat), (5 : Nat) = (5 : Nat) ∧ (0 : Nat) + (5 : Nat) ≤ (5 : Nat), (2 : Nat) = (2 : Nat) ∧ (0 : Int) ≤ (0 : Int) ∧ (0 : Int) ≤ (↑j : Int) ∧ (↑j : Int) ≤ (↑(List.length (List.getD l i default).Contents) : Int), (2 : Nat) = (2 : Nat) ∧ roomOK (j - (0 : Nat)) (16 : Nat)]) (by kernel_rfl) (by (first | omega | assumption | exact ⟨rfl, trivial⟩ | simp only [AllP, inK_iff, roomOK_iff, decide_eq_true_eq, Bool.and_eq_true, Bool.or_eq_true, Bool.not_eq_true', decide_eq_false_iff_not, and_true, true_and]; (first | omega | (and_intros <;> intros <;> (try and_intros) <;> first | omega | assumption | exact trivial)))) ?_
      refine good_set [0, 5, 7, 8, 10, 11, 12, 41, 42, 43, 44, 45, 46, 47, 48, 49, 50, 51, 52, 53] [(3, [boxes l, SV.int IntKind.i64 (List.getD l i default).ID], SV.int IntKind.i64 (↑i : Int))] [SVles [SV.lst (5 : Nat) (List.length l) fun i => Box.cells (List.getD l i default), SV.int IntKind.i64 (List.getD l i default).ID] [SV.lst (5 : Nat) (List.length l) fun i => Box.cells (List.getD l i default), SV.int IntKind.i64 (List.getD l i default).ID], Spec Try.prog (41 : FuncId) [SV.lst (5 : Nat) (List.length l) fun i => Box.cells (List.getD l i default), SV.int IntKind.i64 (List.getD l i default).ID] (SV.int IntKind.i64 (↑i : Int)), InK IntKind.i64 ((↑j : Int) + (1 : Int)), (2 : Nat) = (2 : Nat) ∧ (0 : Int) ≤ (↑j : Int) + (1 : Int) ∧ (↑j : Int) + (1 : Int) ≤ (↑(List.length (List.getD l i default).Contents) : Int) ∧ (↑(List.length (List.getD l i default).Contents) : Int) ≤ (↑(List.length (List.getD l i default).Contents) : Int), (41 : Nat) = (41 : Nat) ∧ (2 : Nat) = (2 : Nat) ∧ (2 : Nat) = (2 : Nat) ∧ roomOK (j - (0 : Nat) + (List.length (List.getD l i default).Contents - Int.toNat ((↑j : Int) + (1 : Int)))) (16 : Nat), (5 : Nat) = (5 : Nat) ∧ (0 : Int) ≤ (↑i : Int) ∧ (↑i : Int) < (↑(List.length l) : Int), (1 : Nat) = (1 : Nat) ∧ (4 : Nat) + (1 : Nat) ≤ (5 : Nat)] (by kernel_rfl) ⟨SVles.refl _, s41, (by (first | omega | assumption | exact ⟨rfl, trivial⟩ | simp only [AllP, inK_iff, roomOK_iff, decide_eq_true_eq, Bool.and_eq_true, Bool.or_eq_true, Bool.not_eq_true', decide_eq_false_iff_not, and_true, true_and]; (first | omega | (and_intros <;> intros <;> (try and_intros) <;> first | omega | assumption | exact trivial)))), (by (first | omega | assumption | exact ⟨rfl, trivial⟩ | simp only [AllP, inK_iff, roomOK_iff, decide_eq_true_eq, Bool.and_eq_true, Bool.or_eq_true, Bool.not_eq_true', decide_eq_false_iff_not, and_true, true_and]; (first | omega | (and_intros <;> intros <;> (try and_intros) <;> first | omega | assumption | exact trivial)))), (by (first | omega | assumption | exact ⟨rfl, trivial⟩ | simp only [AllP, inK_iff, roomOK_iff, decide_eq_true_eq, Bool.and_eq_true, Bool.or_eq_true, Bool.not_eq_true', decide_eq_false_iff_not, and_true, true_and]; (first | omega | (and_intros <;> intros <;> (try and_intros) <;> first | omega | assumption | exact trivial)))), (by (first | omega | assumption | exact ⟨rfl, trivial⟩ | simp only [AllP, inK_iff, roomOK_iff, decide_eq_true_eq, Bool.and_eq_true, Bool.or_eq_true, Bool.not_eq_true', decide_eq_false_iff_not, and_true, true_and]; (first | omega | (and_intros <;> intros <;> (try and_intros) <;> first | omega | assumption | exact trivial)))), (by (first | omega | assumption | exact ⟨rfl, trivial⟩ | simp only [AllP, inK_iff, roomOK_iff, decide_eq_true_eq, Bool.and_eq_true, Bool.or_eq_true, Bool.not_eq_true', decide_eq_false_iff_not, and_true, true_and]; (first | omega | (and_intros <;> intros <;> (try and_intros) <;> first | omega | assumption | exact trivial)))), trivial⟩ ?_
      refine good_run 16 (obs := [True → (2 : Nat) = (2 : Nat) ∧ (0 : Int) ≤ (↑j : Int) ∧ (↑j : Int) < (↑(List.length (List.getD l i default).Contents) : Int), True → (0 : Nat) + (2 : Nat) ≤ (2 : Nat), (2 : Nat) = (2 : Nat) ∧ (0 : Nat) + (2 : Nat) ≤ (2 : Nat)]) (by kernel_rfl) (by (first | omega | assumption | exact ⟨rfl, trivial⟩ | simp only [AllP, inK_iff, roomOK_iff, decide_eq_true_eq, Bool.and_eq_true, Bool.or_eq_true, Bool.not_eq_true', decide_eq_false_iff_not, and_true, true_and]; (first | omega | (and_intros <;> intros <;> (try and_intros) <;> first | omega | assumption | exact trivial)))) ?_
      refine good_fin [List.length l = List.length (withC l i (List.eraseIdx (List.getD l i default).Contents j), List.getD (List.getD l i default).Contents j default, (0 : Int)).fst ∧ ∀ (i_1 : Nat), i_1 < List.length l → (fun j_1 => if j_1 = i then lay ((fun i => Box.cells (List.getD l i default)) i) (4 : Nat) [SV.lst (2 : Nat) (j - (0 : Nat) + (List.length (List.getD l i default).Contents - Int.toNat ((↑j : Int) + (1 : Int)))) (joinGet (j - (0 : Nat)) (fun i_2 => (fun i_3 => Content.cells (List.getD (List.getD l i default).Contents i_3 default)) (Int.toNat (0 : Int) + i_2)) fun i_2 => (fun i_3 => Content.cells (List.getD (List.getD l i default).Contents i_3 default)) (Int.toNat ((↑j : Int) + (1 : Int)) + i_2))] else (fun i => Box.cells (List.getD l i default)) j_1) i_1 = (fun i_2 => Box.cells (List.getD (withC l i (List.eraseIdx (List.getD l i default).Contents j), List.getD (List.getD l i default).Contents j default, (0 : Int)).fst i_2 default)) i_1, (List.getD (List.getD l i default).Contents j default).Unit = (List.getD (List.getD l i default).Contents j default).Unit, (List.getD (List.getD l i default).Contents j default).Thick = (List.getD (List.getD l i default).Contents j default).Thick, (0 : Int) = (0 : Int)] (by kernel_rfl) ⟨?_, rfl, rfl, rfl, trivial⟩
      exact withC_row hi (by rw [List.length_eraseIdx, if_pos hj]; omega) (fun k => join_del Content.cells default _ j _ hj (by omega) k)
end Go.Sx.T
