/- Contracts of functions of the program, each proved by running its code symbolically (BH). -/
import Derived.Test.YtffgpipdiinkcaaBG
namespace Go.Sx.T
open Go Go.Proofs Go.Sx
set_option maxRecDepth 100000
set_option maxHeartbeats 4000000
set_option linter.unusedVariables false
set_option linter.unusedSimpArgs false
theorem s23 (l : List Box) (u : Int) (hl : ∀ b ∈ l, b.Contents.length ≤ 100000) : Spec Try.prog 23 [boxes l, .int .i64 u] (.tup [boxes (takeB l u).1, (takeB l u).2.1.sv, .int .i64 (takeB l u).2.2]) := by
  refine spec_of_good mixed Try.func23 F23_ok (by kernel_rfl) ?_
  have hw := whereP_cases u l 0
  refine good_run 11 (obs := []) (by kernel_rfl) trivial ?_
  refine good_call (c := True) (by kernel_rfl) (fun _ => SVles.refl _) (fun _ => s17 (l)) (by kernel_rfl) ?_
  refine good_run 3 (obs := []) (by kernel_rfl) trivial ?_
  refine good_cond (!decide (check l = (0 : Int))) (by kernel_rfl) (fun hc1 => ?_) (fun hc1 => ?_)
  · simp only [Bool.not_eq_true', decide_eq_false_iff_not] at hc1
    have : takeB l u = ([], ⟨0, 0⟩, 1) := by rw [takeB, if_pos hc1]
    rw [this]
    refine good_run 10 (obs := [(2 : Nat) = (2 : Nat) ∧ (0 : Nat) + (2 : Nat) ≤ (2 : Nat)]) (by kernel_rfl) (by (first | omega | assumption | exact ⟨rfl, trivial⟩ | simp only [AllP, inK_iff, roomOK_iff, decide_eq_true_eq, Bool.and_eq_true, Bool.or_eq_true, Bool.not_eq_true', decide_eq_false_iff_not, and_true, true_and]; (first | omega | (and_intros <;> intros <;> (try and_intros) <;> first | omega | assumption | exact trivial)))) ?_
    refine good_fin [(0 : Nat) = (0 : Nat), (0 : Int) = (0 : Int), (0 : Int) = (0 : Int), (1 : Int) = (1 : Int)] (by kernel_rfl) ⟨rfl, rfl, rfl, rfl, trivial⟩
  · simp only [Bool.not_eq_false', decide_eq_true_eq] at hc1
    have hr := check_iff.1 hc1
    have hlen := hr.len
    refine good_run 5 (obs := []) (by kernel_rfl) trivial ?_
    refine good_call (c := True) (by kernel_rfl) (fun _ => SVles.refl _) (fun _ => s33 (l) (u)) (by kernel_rfl) ?_
    refine good_run 14 (obs := []) (by kernel_rfl) trivial ?_
    refine good_cond (decide ((whereP u (0 : Nat) l).fst < (0 : Int))) (by kernel_rfl) (fun hc2 => ?_) (fun hc2 => ?_)
    · simp only [decide_eq_true_eq] at hc2
      have : takeB l u = ([], ⟨0, 0⟩, 7) := by rw [takeB, if_neg (fun h => h hc1), if_pos hc2]
      rw [this]
      refine good_run 10 (obs := [(2 : Nat) = (2 : Nat) ∧ (0 : Nat) + (2 : Nat) ≤ (2 : Nat)]) (by kernel_rfl) (by (first | omega | assumption | exact ⟨rfl, trivial⟩ | simp only [AllP, inK_iff, roomOK_iff, decide_eq_true_eq, Bool.and_eq_true, Bool.or_eq_true, Bool.not_eq_true', decide_eq_false_iff_not, and_true, true_and]; (first | omega | (and_intros <;> intros <;> (try and_intros) <;> first | omega | assumption | exact trivial)))) ?_
      refine good_fin [(0 : Nat) = (0 : Nat), (0 : Int) = (0 : Int), (0 : Int) = (0 : Int), (7 : Int) = (7 : Int)] (by kernel_rfl) ⟨rfl, rfl, rfl, rfl, trivial⟩
    · simp only [decide_eq_false_iff_not] at hc2
      rcases hw with ⟨e, _⟩ | ⟨i, hi, e, e2, _⟩
      · rw [e] at hc2; simp at hc2
      rw [Nat.zero_add] at e
      obtain ⟨j, hj, ej⟩ : ∃ j : Nat, j < (l.getD i default).Contents.length ∧ findI (l.getD i default).Contents (uq u) = j := by
        rcases findI_cases (l.getD i default).Contents (uq u) with ⟨h, _⟩ | ⟨k, hk, h, _⟩
        · omega
        · exact ⟨k, hk, h⟩
      rw [ej] at e
      have : takeB l u = (withC l i ((l.getD i default).Contents.eraseIdx j), (l.getD i default).Contents.getD j default, 0) := by
        rw [takeB, if_neg (fun h => h hc1), if_neg hc2]
        simp only [e, Int.toNat_natCast]
      obtain ⟨f1, f2, f3⟩ := fault_zero.1 (hr.fault _ (getD_mem l default i hi))
      rw [this, e]
      refine good_run 4 (obs := []) (by kernel_rfl) trivial ?_
      refine good_own (c := True) (by kernel_rfl) (by kernel_rfl) (SVles.refl _) (s39 (l) (by (first | omega | assumption | exact ⟨rfl, trivial⟩ | simp only [AllP, inK_iff, roomOK_iff, decide_eq_true_eq, Bool.and_eq_true, Bool.or_eq_true, Bool.not_eq_true', decide_eq_false_iff_not, and_true, true_and]; (first | omega | (and_intros <;> intros <;> (try and_intros) <;> first | omega | assumption | exact trivial)))) (by (first | omega | assumption | exact ⟨rfl, trivial⟩ | simp only [AllP, inK_iff, roomOK_iff, decide_eq_true_eq, Bool.and_eq_true, Bool.or_eq_true, Bool.not_eq_true', decide_eq_false_iff_not, and_true, true_and]; (first | omega | (and_intros <;> intros <;> (try and_intros) <;> first | omega | assumption | exact trivial))))) ?_
      refine good_run 13 (obs := [(5 : Nat) = (5 : Nat) ∧ (0 : Int) ≤ (↑i : Int) ∧ (↑i : Int) < (↑(List.length l) : Int)]) (by kernel_rfl) (by (first | omega | assumption | exact ⟨rfl, trivial⟩ | simp only [AllP, inK_iff, roomOK_iff, decide_eq_true_eq, Bool.and_eq_true, Bool.or_eq_true, Bool.not_eq_true', decide_eq_false_iff_not, and_true, true_and]; (first | omega | (and_intros <;> intros <;> (try and_intros) <;> first | omega | assumption | exact trivial)))) ?_
      refine good_own (c := True) (by kernel_rfl) (by kernel_rfl) (SVles.refl _) (s45 ((List.getD l i default).Contents) ((↑j : Int)) (by (first | omega | assumption | exact ⟨rfl, trivial⟩ | simp only [AllP, inK_iff, roomOK_iff, decide_eq_true_eq, Bool.and_eq_true, Bool.or_eq_true, Bool.not_eq_true', decide_eq_false_iff_not, and_true, true_and]; (first | omega | (and_intros <;> intros <;> (try and_intros) <;> first | omega | assumption | exact trivial)))) (by (first | omega | assumption | exact ⟨rfl, trivial⟩ | simp only [AllP, inK_iff, roomOK_iff, decide_eq_true_eq, Bool.and_eq_true, Bool.or_eq_true, Bool.not_eq_true', decide_eq_false_iff_not, and_true, true_and]; (first | omega | (and_intros <;> intros <;> (try and_intros) <;> first | omega | assumption | exact trivial)))) (by (first | omega | assumption | exact ⟨rfl, trivial⟩ | simp only [AllP, inK_iff, roomOK_iff, decide_eq_true_eq, Bool.and_eq_true, Bool.or_eq_true, Bool.not_eq_true', decide_eq_false_iff_not, and_true, true_and]; (first | omega | (and_intros <;> intros <;> (try and_intros) <;> first | omega | assumption | exact trivial))))) ?_
      refine good_run 23 (obs := [(5 : Nat) = (5 : Nat) ∧ (0 : Int) ≤ (↑i : Int) ∧ (↑i : Int) < (↑(List.length l) : Int), (1 : Nat) = (1 : Nat) ∧ (4 : Nat) + (1 : Nat) ≤ (5 : Nat), True → (5 : Nat) = (5 : Nat) ∧ (0 : Int) ≤ (↑i : Int) ∧ (↑i : Int) < (↑(List.length l) : Int), True → (2 : Nat) = (2 : Nat) ∧ (0 : Int) ≤ (↑j : Int) ∧ (↑j : Int) < (↑(List.length (List.getD l i default).Contents) : Int), True → (0 : Nat) + (2 : Nat) ≤ (2 : Nat), (2 : Nat) = (2 : Nat) ∧ (0 : Nat) + (2 : Nat) ≤ (2 : Nat)]) (by kernel_rfl) (by (first | omega | assumption | exact ⟨rfl, trivial⟩ | simp only [AllP, inK_iff, roomOK_iff, decide_eq_true_eq, Bool.and_eq_true, Bool.or_eq_true, Bool.not_eq_true', decide_eq_false_iff_not, and_true, true_and]; (first | omega | (and_intros <;> intros <;> (try and_intros) <;> first | omega | assumption | exact trivial)))) ?_
      refine good_fin [List.length l = List.length (withC l i (List.eraseIdx (List.getD l i default).Contents j), List.getD (List.getD l i default).Contents j default, (0 : Int)).fst ∧ ∀ (i_1 : Nat), i_1 < List.length l → (fun j_1 => if j_1 = i then lay ((fun i => Box.cells (List.getD l i default)) i) (4 : Nat) [SV.lst (2 : Nat) (List.length (List.getD l i default).Contents - (1 : Nat)) fun k => Content.cells (List.getD (List.eraseIdx (List.getD l i default).Contents j) k default)] else (fun i => Box.cells (List.getD l i default)) j_1) i_1 = (fun i_2 => Box.cells (List.getD (withC l i (List.eraseIdx (List.getD l i default).Contents j), List.getD (List.getD l i default).Contents j default, (0 : Int)).fst i_2 default)) i_1, (List.getD (List.getD l i default).Contents j default).Unit = (List.getD (List.getD l i default).Contents j default).Unit, (List.getD (List.getD l i default).Contents j default).Thick = (List.getD (List.getD l i default).Contents j default).Thick, (0 : Int) = (0 : Int)] (by kernel_rfl) ⟨?_, rfl, rfl, rfl, trivial⟩
      exact withC_row hi (by rw [List.length_eraseIdx, if_pos hj]) (fun _ => rfl)
theorem few_ex : ∀ b ∈ [exBox], b.Contents.length ≤ 100000 := by
  intro b hb; simp at hb; subst hb; decide
def exBox2 : Box := ⟨3, 100, 90, 0, [⟨7, 40⟩, ⟨9, 30⟩, ⟨8, 20⟩]⟩
theorem ex_free : freeB ([exBox].getD 0 default) = (30, 0) := by decide
theorem ex_put1 : putB [exBox] 3 1 ⟨9, 31⟩ = ([], 12) := by decide
theorem ex_put2 : putB [exBox] 3 1 ⟨9, 30⟩ = ([exBox2], 0) := by decide
theorem ex_where : whereB [exBox2] 9 = (3, 1, true) := by decide
theorem s21a : Spec Try.prog 21 [boxes [exBox], .int .i64 3, .int .i64 1, .agg [.int .i64 9, .int .i64 31]] (.tup [boxes [], .int .i64 12]) := by
  have := s21 [exBox] 3 1 ⟨9, 31⟩ few_ex
  rwa [ex_put1] at this
theorem s21b : Spec Try.prog 21 [boxes [exBox], .int .i64 3, .int .i64 1, .agg [.int .i64 9, .int .i64 30]] (.tup [boxes [exBox2], .int .i64 0]) := by
  have := s21 [exBox] 3 1 ⟨9, 30⟩ few_ex
  rwa [ex_put2] at this
theorem s12a : Spec Try.prog 12 [([exBox].getD 0 default).sv] (.tup [.int .i64 30, .int .i64 0]) := by
  have := s12 ([exBox].getD 0 default)
  rwa [ex_free] at this
theorem s15a : Spec Try.prog 15 [boxes [exBox2], .int .i64 9] (.tup [.int .i64 3, .int .i64 1, .bool true]) := by
  have := s15 [exBox2] 9
  rwa [ex_where] at this
theorem s10 : Spec Try.prog 10 [] (.bool true) := by
  refine spec_of_good mixed Try.func10 F10_ok (by kernel_rfl) ?_
  refine good_run 7 (obs := []) (by kernel_rfl) trivial ?_
  refine good_call (c := True) (by kernel_rfl) (fun _ => SVles.refl _) (fun _ => s30) (by kernel_rfl) ?_
  refine good_run 2 (obs := [(5 : Nat) = (5 : Nat) ∧ (0 : Int) ≤ (0 : Int) ∧ (0 : Int) < (1 : Int), (0 : Nat) + (5 : Nat) ≤ (5 : Nat)]) (by kernel_rfl) (by (first | omega | assumption | exact ⟨rfl, trivial⟩ | simp only [AllP, inK_iff, roomOK_iff, decide_eq_true_eq, Bool.and_eq_true, Bool.or_eq_true, Bool.not_eq_true', decide_eq_false_iff_not, and_true, true_and]; (first | omega | (and_intros <;> intros <;> (try and_intros) <;> first | omega | assumption | exact trivial)))) ?_
  refine good_call (c := True) (by kernel_rfl) (fun _ => SVles.refl _) (fun _ => s12a) (by kernel_rfl) ?_
  refine good_run 9 (obs := []) (by kernel_rfl) trivial ?_
  refine good_call (c := True) (by kernel_rfl) (fun _ => SVles.refl _) (fun _ => s30) (by kernel_rfl) ?_
  refine good_run 1 (obs := []) (by kernel_rfl) trivial ?_
  refine good_call (c := True) (by kernel_rfl) (fun _ => SVles.refl _) (fun _ => s21a) (by kernel_rfl) ?_
  refine good_run 9 (obs := []) (by kernel_rfl) trivial ?_
  refine good_call (c := True) (by kernel_rfl) (fun _ => SVles.refl _) (fun _ => s30) (by kernel_rfl) ?_
  refine good_run 1 (obs := []) (by kernel_rfl) trivial ?_
  refine good_call (c := True) (by kernel_rfl) (fun _ => SVles.refl _) (fun _ => s21b) (by kernel_rfl) ?_
  refine good_run 10 (obs := []) (by kernel_rfl) trivial ?_
  refine good_call (c := True) (by kernel_rfl) (fun _ => SVles.refl _) (fun _ => s15a) (by kernel_rfl) ?_
  refine good_run 38 (obs := [(decide ((30 : Int) = (30 : Int)) && decide ((12 : Int) = (12 : Int)) && decide ((3 : Int) = (3 : Int)) && decide ((1 : Int) = (1 : Int)) && true) = true ∧ True → InK IntKind.i64 ((0 : Int) + (0 : Int))]) (by kernel_rfl) (by (first | omega | assumption | exact ⟨rfl, trivial⟩ | simp only [AllP, inK_iff, roomOK_iff, decide_eq_true_eq, Bool.and_eq_true, Bool.or_eq_true, Bool.not_eq_true', decide_eq_false_iff_not, and_true, true_and]; (first | omega | (and_intros <;> intros <;> (try and_intros) <;> first | omega | assumption | exact trivial)))) ?_
  refine good_fin [(decide ((30 : Int) = (30 : Int)) && decide ((12 : Int) = (12 : Int)) && decide ((3 : Int) = (3 : Int)) && decide ((1 : Int) = (1 : Int)) && true && decide ((0 : Int) + (0 : Int) = (0 : Int))) = true] (by kernel_rfl) ⟨(by rfl), trivial⟩
end Go.Sx.T
