/- Contracts of functions of the program, each proved by running its code symbolically (HK). -/
import Derived.Test.YtgnffeajpmniiaaHJ
namespace Go.Sx.T
open Go Go.Proofs Go.Sx
set_option maxRecDepth 100000
set_option maxHeartbeats 4000000
set_option linter.unusedVariables false
set_option linter.unusedSimpArgs false
theorem s51a (l : List Box) (id : Int) : Spec Try.prog 51 [boxes l, .int .i64 id] (.int .i64 (findI l (idK Box.ID id))) := s51 l id
theorem take_ints (x : List Int) (k : Nat) (hk : k ≤ x.length) : SVle (.lst 1 (k - 0) fun i => (fun i => [SV.int .i64 (x.getD i 0)]) (Int.toNat 0 + i)) (ints (x.take k)) := by
  refine svle_lst (by simp; omega) fun i hi => ?_
  show SVles [.int .i64 (x.getD (0 + i) 0)] [.int .i64 ((x.take k).getD i 0)]
  rw [getD_take _ _ _ (by omega), Nat.zero_add]
  exact SVles.refl _
theorem s41 (l : List Shf) (b : List Box) (s : List Std) (i : Nat) (hw : wOK b) (hl : l.length ≤ 100000) (hb : b.length ≤ 100000) (hs : s.length ≤ 100000) (hx : ∀ y ∈ s, y.Boxes.length ≤ 100000) (hlt : i < s.length) :
    Spec Try.prog 41 [shfs l, boxes b, stds s, .int .i64 (i : Int)] (.int .i64 (badSt l b s i)) := by
  have hxk := hx _ (getD_mem s default i hlt)
  have hbb : badSt l b s i = if isK l Shf.ID (s.getD i default).Shelf = false then 7 else if (decide (0 < i) && decide ((s.getD i default).Shelf ≤ (s.getD (i - 1) default).Shelf)) = true then 5
      else if (s.getD i default).Boxes.length = 0 then 9
      else if badBs b (usedB (s.take i)) (atK l Shf.ID (s.getD i default).Shelf).Climate (s.getD i default).Boxes ≠ 0 then badBs b (usedB (s.take i)) (atK l Shf.ID (s.getD i default).Shelf).Climate (s.getD i default).Boxes
      else if (atK l Shf.ID (s.getD i default).Shelf).Length < widthI b (s.getD i default).Boxes then 12 else 0 := rfl
  have hck : badBs b (usedB (s.take i)) (atK l Shf.ID (s.getD i default).Shelf).Climate (s.getD i default).Boxes = errFrom (badBx b (usedB (s.take i)) (atK l Shf.ID (s.getD i default).Shelf).Climate (s.getD i default).Boxes) (s.getD i default).Boxes.length 0 := rfl
  refine spec_of_good mixed Try.func41 F41_ok (by kernel_rfl) ?_
  rcases isK_cases l Shf.ID (s.getD i default).Shelf with ⟨h1, _, h3, _⟩ | ⟨m, hm, h1, h2, h3, _⟩
  · have s46 : Spec Try.prog 46 [shfs l, .int .i64 (s.getD i default).Shelf] (.int .i64 (-1)) := h3 ▸ s46 l (s.getD i default).Shelf
    rw [if_pos h1] at hbb
    rw [hbb]
    refine good_run 13 (obs := [(2 : Nat) = (2 : Nat) ∧ (0 : Int) ≤ (↑i : Int) ∧ (↑i : Int) < (↑(List.length s) : Int)]) (by kernel_rfl) (by (first | omega | assumption | exact ⟨rfl, trivial⟩ | simp only [AllP, inK_iff, roomOK_iff, decide_eq_true_eq, Bool.and_eq_true, Bool.or_eq_true, Bool.not_eq_true', decide_eq_false_iff_not, and_true, true_and]; (first | omega | (and_intros <;> intros <;> (try and_intros) <;> first | omega | assumption | exact trivial)))) ?_
    refine good_call (c := True) (by kernel_rfl) (fun _ => SVles.refl _) (fun _ => s46) (by kernel_rfl) ?_
    refine good_run 10 (obs := []) (by kernel_rfl) trivial ?_
    refine good_cond true (by kernel_rfl) (fun _ => ?_) (fun h => nomatch h)
    refine good_run 7 (obs := []) (by kernel_rfl) trivial ?_
    refine good_fin [(7 : Int) = (7 : Int)] (by kernel_rfl) ⟨rfl, trivial⟩
  · have s46 : Spec Try.prog 46 [shfs l, .int .i64 (s.getD i default).Shelf] (.int .i64 (m : Int)) := h3 ▸ s46 l (s.getD i default).Shelf
    rw [if_neg (by rw [h1]; decide)] at hbb
    rw [h2] at hbb hck
    have e1 : ((i : Int) - 1).toNat = i - 1 := by omega
    have e2 : decide ((0 : Int) < (i : Int)) = decide (0 < i) := decide_eq_decide.2 (by omega)
    refine good_run 13 (obs := [(2 : Nat) = (2 : Nat) ∧ (0 : Int) ≤ (↑i : Int) ∧ (↑i : Int) < (↑(List.length s) : Int)]) (by kernel_rfl) (by (first | omega | assumption | exact ⟨rfl, trivial⟩ | simp only [AllP, inK_iff, roomOK_iff, decide_eq_true_eq, Bool.and_eq_true, Bool.or_eq_true, Bool.not_eq_true', decide_eq_false_iff_not, and_true, true_and]; (first | omega | (and_intros <;> intros <;> (try and_intros) <;> first | omega | assumption | exact trivial)))) ?_
    refine good_call (c := True) (by kernel_rfl) (fun _ => SVles.refl _) (fun _ => s46) (by kernel_rfl) ?_
    refine good_run 10 (obs := []) (by kernel_rfl) trivial ?_
    refine good_cond (decide ((↑m : Int) < (0 : Int))) (by kernel_rfl) (fun hc1 => ?_) (fun hc1 => ?_)
    · simp only [decide_eq_true_eq] at hc1
      omega
    refine good_run 22 (obs := [decide ((0 : Int) < (↑i : Int)) = true ∧ True → InK IntKind.i64 ((↑i : Int) - (1 : Int)), decide ((0 : Int) < (↑i : Int)) = true ∧ True → (2 : Nat) = (2 : Nat) ∧ (0 : Int) ≤ (↑i : Int) - (1 : Int) ∧ (↑i : Int) - (1 : Int) < (↑(List.length s) : Int), decide ((0 : Int) < (↑i : Int)) = true ∧ True → (2 : Nat) = (2 : Nat) ∧ (0 : Int) ≤ (↑i : Int) ∧ (↑i : Int) < (↑(List.length s) : Int)]) (by kernel_rfl) (by (first | omega | assumption | exact ⟨rfl, trivial⟩ | simp only [AllP, inK_iff, roomOK_iff, decide_eq_true_eq, Bool.and_eq_true, Bool.or_eq_true, Bool.not_eq_true', decide_eq_false_iff_not, and_true, true_and]; (first | omega | (and_intros <;> intros <;> (try and_intros) <;> first | omega | assumption | exact trivial)))) ?_
    refine good_cond (decide ((0 : Int) < (↑i : Int)) && decide ((List.getD s i default).Shelf ≤ (List.getD s (Int.toNat ((↑i : Int) - (1 : Int))) default).Shelf)) (by kernel_rfl) (fun hc2 => ?_) (fun hc2 => ?_)
    · rw [e1, e2] at hc2
      rw [if_pos hc2] at hbb
      rw [hbb]
      refine good_run 7 (obs := []) (by kernel_rfl) trivial ?_
      refine good_fin [(5 : Int) = (5 : Int)] (by kernel_rfl) ⟨rfl, trivial⟩
    · rw [e1, e2] at hc2
      rw [if_neg (by rw [hc2]; decide)] at hbb
      refine good_run 13 (obs := [(2 : Nat) = (2 : Nat) ∧ (0 : Int) ≤ (↑i : Int) ∧ (↑i : Int) < (↑(List.length s) : Int)]) (by kernel_rfl) (by (first | omega | assumption | exact ⟨rfl, trivial⟩ | simp only [AllP, inK_iff, roomOK_iff, decide_eq_true_eq, Bool.and_eq_true, Bool.or_eq_true, Bool.not_eq_true', decide_eq_false_iff_not, and_true, true_and]; (first | omega | (and_intros <;> intros <;> (try and_intros) <;> first | omega | assumption | exact trivial)))) ?_
      refine good_cond (decide ((↑(List.length (List.getD s i default).Boxes) : Int) = (0 : Int))) (by kernel_rfl) (fun hc3 => ?_) (fun hc3 => ?_)
      · simp only [decide_eq_true_eq] at hc3
        rw [if_pos (by omega)] at hbb
        rw [hbb]
        refine good_run 7 (obs := []) (by kernel_rfl) trivial ?_
        refine good_fin [(9 : Int) = (9 : Int)] (by kernel_rfl) ⟨rfl, trivial⟩
      · simp only [decide_eq_false_iff_not] at hc3
        rw [if_neg (by omega)] at hbb
        refine good_run 14 (obs := [(2 : Nat) = (2 : Nat) ∧ (0 : Int) ≤ (↑i : Int) ∧ (↑i : Int) < (↑(List.length s) : Int)]) (by kernel_rfl) (by (first | omega | assumption | exact ⟨rfl, trivial⟩ | simp only [AllP, inK_iff, roomOK_iff, decide_eq_true_eq, Bool.and_eq_true, Bool.or_eq_true, Bool.not_eq_true', decide_eq_false_iff_not, and_true, true_and]; (first | omega | (and_intros <;> intros <;> (try and_intros) <;> first | omega | assumption | exact trivial)))) ?_
        refine good_loopJ (fun j : Nat => ⟨[(53, .sv (.int .i64 (j))), (52, LV.sv (SV.int IntKind.i64 (↑(List.length (List.getD s i default).Boxes) : Int))), (51, LV.sv (SV.lst (1 : Nat) (List.length (List.getD s i default).Boxes) fun i_1 => [SV.int IntKind.i64 (List.getD (List.getD s i default).Boxes i_1 (0 : Int))])), (9, LV.sv (SV.int IntKind.i64 (↑m : Int))), (0, LV.sv (SV.lst (4 : Nat) (List.length l) fun i => Shf.cells (List.getD l i default))), (1, LV.sv (SV.lst (5 : Nat) (List.length b) fun i => Box.cells (List.getD b i default))), (2, LV.sv (SV.lst (2 : Nat) (List.length s) fun i => Std.cells (List.getD s i default))), (3, LV.sv (SV.int IntKind.i64 (↑i : Int)))], []⟩) (fun j => j ≤ (s.getD i default).Boxes.length ∧ (errFrom (badBx b (usedB (s.take i)) (l.getD m default).Climate (s.getD i default).Boxes) ((s.getD i default).Boxes.length - j) j = badBs b (usedB (s.take i)) (l.getD m default).Climate (s.getD i default).Boxes ∧ ∀ q, q < j → isK b Box.ID ((s.getD i default).Boxes.getD q 0) = true)) (fun j => (s.getD i default).Boxes.length - j) (0) [(0 : Int) = (0 : Int), (↑(List.length (List.getD s i default).Boxes) : Int) = (↑(List.length (List.getD s i default).Boxes) : Int), List.length (List.getD s i default).Boxes = List.length (List.getD s i default).Boxes ∧ ∀ (i_1 : Nat), i_1 < List.length (List.getD s i default).Boxes → (fun i_2 => [SV.int IntKind.i64 (List.getD (List.getD s i default).Boxes i_2 (0 : Int))]) i_1 = (fun i_1 => [SV.int IntKind.i64 (List.getD (List.getD s i default).Boxes i_1 (0 : Int))]) i_1, (↑m : Int) = (↑m : Int), List.length l = List.length l ∧ ∀ (i : Nat), i < List.length l → (fun i => Shf.cells (List.getD l i default)) i = (fun i => Shf.cells (List.getD l i default)) i, List.length b = List.length b ∧ ∀ (i : Nat), i < List.length b → (fun i => Box.cells (List.getD b i default)) i = (fun i => Box.cells (List.getD b i default)) i, List.length s = List.length s ∧ ∀ (i : Nat), i < List.length s → (fun i => Std.cells (List.getD s i default)) i = (fun i => Std.cells (List.getD s i default)) i, (↑i : Int) = (↑i : Int)] (by kernel_rfl) (by kernel_rfl) ⟨rfl, rfl, ⟨rfl, fun _ _ => rfl⟩, rfl, ⟨rfl, fun _ _ => rfl⟩, ⟨rfl, fun _ _ => rfl⟩, ⟨rfl, fun _ _ => rfl⟩, rfl, trivial⟩ ?_ ?_
        · exact ⟨Nat.zero_le _, hck.symm, by omega⟩
        rintro j ⟨hj0, hj1, hj2⟩
        refine good_run 6 (obs := []) (by kernel_rfl) trivial ?_
        refine good_cond (decide ((↑j : Int) < (↑(List.length (List.getD s i default).Boxes) : Int))) (by kernel_rfl) (fun hc4 => ?_) (fun hc4 => ?_)
        · have hjt : j < (s.getD i default).Boxes.length := by simp only [decide_eq_true_eq] at hc4; omega
          have hsj := errFrom_step (badBx b (usedB (s.take i)) (l.getD m default).Climate (s.getD i default).Boxes) (s.getD i default).Boxes.length j hjt
          rw [hj1] at hsj
          have hbj : badBx b (usedB (s.take i)) (l.getD m default).Climate (s.getD i default).Boxes j = if isK b Box.ID ((s.getD i default).Boxes.getD j 0) = false then 7 else if decide ((s.getD i default).Boxes.getD j 0 ∈ usedB (s.take i) ++ (s.getD i default).Boxes.take j) = true then 6 else if (atK b Box.ID ((s.getD i default).Boxes.getD j 0)).Climate ≠ (l.getD m default).Climate then 10 else 0 := rfl
          rcases isK_cases b Box.ID ((s.getD i default).Boxes.getD j 0) with ⟨g1, _, g3, _⟩ | ⟨q, hq, g1, g2, g3, _⟩
          · have s51a : Spec Try.prog 51 [boxes b, .int .i64 ((s.getD i default).Boxes.getD j 0)] (.int .i64 (-1)) := g3 ▸ s51a b _
            rw [if_pos g1] at hbj
            rw [hbj, if_pos (by decide)] at hsj
            rw [hsj, if_pos (by decide)] at hbb
            rw [hbb]
            refine good_run 16 (obs := [(1 : Nat) = (1 : Nat) ∧ (0 : Int) ≤ (↑j : Int) ∧ (↑j : Int) < (↑(List.length (List.getD s i default).Boxes) : Int)]) (by kernel_rfl) (by (first | omega | assumption | exact ⟨rfl, trivial⟩ | simp only [AllP, inK_iff, roomOK_iff, decide_eq_true_eq, Bool.and_eq_true, Bool.or_eq_true, Bool.not_eq_true', decide_eq_false_iff_not, and_true, true_and]; (first | omega | (and_intros <;> intros <;> (try and_intros) <;> first | omega | assumption | exact trivial)))) ?_
            refine good_call (c := True) (by kernel_rfl) (fun _ => SVles.refl _) (fun _ => s51a) (by kernel_rfl) ?_
            refine good_run 10 (obs := []) (by kernel_rfl) trivial ?_
            refine good_cond true (by kernel_rfl) (fun _ => ?_) (fun h => nomatch h)
            refine good_run 9 (obs := []) (by kernel_rfl) trivial ?_
            refine good_leaveJ (by kernel_rfl) ?_
            refine good_run 2 (obs := []) (by kernel_rfl) trivial ?_
            refine good_fin [(7 : Int) = (7 : Int)] (by kernel_rfl) ⟨rfl, trivial⟩
          · have s51a : Spec Try.prog 51 [boxes b, .int .i64 ((s.getD i default).Boxes.getD j 0)] (.int .i64 (q : Int)) := g3 ▸ s51a b _
            rw [if_neg (by rw [g1]; decide), g2] at hbj
            refine good_run 16 (obs := [(1 : Nat) = (1 : Nat) ∧ (0 : Int) ≤ (↑j : Int) ∧ (↑j : Int) < (↑(List.length (List.getD s i default).Boxes) : Int)]) (by kernel_rfl) (by (first | omega | assumption | exact ⟨rfl, trivial⟩ | simp only [AllP, inK_iff, roomOK_iff, decide_eq_true_eq, Bool.and_eq_true, Bool.or_eq_true, Bool.not_eq_true', decide_eq_false_iff_not, and_true, true_and]; (first | omega | (and_intros <;> intros <;> (try and_intros) <;> first | omega | assumption | exact trivial)))) ?_
            refine good_call (c := True) (by kernel_rfl) (fun _ => SVles.refl _) (fun _ => s51a) (by kernel_rfl) ?_
            refine good_run 10 (obs := []) (by kernel_rfl) trivial ?_
            refine good_cond (decide ((↑q : Int) < (0 : Int))) (by kernel_rfl) (fun hc5 => ?_) (fun hc5 => ?_)
            · simp only [decide_eq_true_eq] at hc5
              omega
            refine good_run 12 (obs := [(2 : Nat) = (2 : Nat) ∧ (0 : Int) ≤ (↑i : Int) ∧ (↑i : Int) < (↑(List.length s) : Int), (1 : Nat) = (1 : Nat) ∧ (0 : Int) ≤ (0 : Int) ∧ (0 : Int) ≤ (↑j : Int) ∧ (↑j : Int) ≤ (↑(List.length (List.getD s i default).Boxes) : Int)]) (by kernel_rfl) (by (first | omega | assumption | exact ⟨rfl, trivial⟩ | simp only [AllP, inK_iff, roomOK_iff, decide_eq_true_eq, Bool.and_eq_true, Bool.or_eq_true, Bool.not_eq_true', decide_eq_false_iff_not, and_true, true_and]; (first | omega | (and_intros <;> intros <;> (try and_intros) <;> first | omega | assumption | exact trivial)))) ?_
            refine good_call (args := [SV.lst (1 : Nat) (j - (0 : Nat)) fun i_1 => (fun i_1 => [SV.int IntKind.i64 (List.getD (List.getD s i default).Boxes i_1 (0 : Int))]) (Int.toNat (0 : Int) + i_1), SV.int IntKind.i64 (List.getD (List.getD s i default).Boxes j (0 : Int))]) (c := True) (by kernel_rfl) (fun _ => SVles.cons (take_ints _ j (by omega)) (SVles.refl _)) (fun _ => s65 ((s.getD i default).Boxes.take j) ((s.getD i default).Boxes.getD j 0)) (by kernel_rfl) ?_
            refine good_run 2 (obs := []) (by kernel_rfl) trivial ?_
            refine good_cond (decide (List.getD (List.getD s i default).Boxes j (0 : Int) ∈ List.take j (List.getD s i default).Boxes)) (by kernel_rfl) (fun hc6 => ?_) (fun hc6 => ?_)
            · simp only [decide_eq_true_eq] at hc6
              rw [if_pos (by rw [decide_eq_true_eq, List.mem_append]; exact .inr hc6)] at hbj
              rw [hbj, if_pos (by decide)] at hsj
              rw [hsj, if_pos (by decide)] at hbb
              rw [hbb]
              refine good_run 9 (obs := []) (by kernel_rfl) trivial ?_
              refine good_leaveJ (by kernel_rfl) ?_
              refine good_run 2 (obs := []) (by kernel_rfl) trivial ?_
              refine good_fin [(6 : Int) = (6 : Int)] (by kernel_rfl) ⟨rfl, trivial⟩
            · simp only [decide_eq_false_iff_not] at hc6
              refine good_run 12 (obs := [(2 : Nat) = (2 : Nat) ∧ (0 : Int) ≤ (0 : Int) ∧ (0 : Int) ≤ (↑i : Int) ∧ (↑i : Int) ≤ (↑(List.length s) : Int)]) (by kernel_rfl) (by (first | omega | assumption | exact ⟨rfl, trivial⟩ | simp only [AllP, inK_iff, roomOK_iff, decide_eq_true_eq, Bool.and_eq_true, Bool.or_eq_true, Bool.not_eq_true', decide_eq_false_iff_not, and_true, true_and]; (first | omega | (and_intros <;> intros <;> (try and_intros) <;> first | omega | assumption | exact trivial)))) ?_
              refine good_loopJ (fun p : Nat => ⟨[(76, .sv (.int .i64 (p))), (75, .sv (.int .i64 (i))), (74, .sv (.lst 2 i fun p => Std.cells (s.getD p default))), (12, LV.sv (SV.int IntKind.i64 (↑q : Int))), (11, LV.sv (SV.int IntKind.i64 (List.getD (List.getD s i default).Boxes j (0 : Int)))), (53, LV.sv (SV.int IntKind.i64 (↑j : Int))), (52, LV.sv (SV.int IntKind.i64 (↑(List.length (List.getD s i default).Boxes) : Int))), (51, LV.sv (SV.lst (1 : Nat) (List.length (List.getD s i default).Boxes) fun i_1 => [SV.int IntKind.i64 (List.getD (List.getD s i default).Boxes i_1 (0 : Int))])), (9, LV.sv (SV.int IntKind.i64 (↑m : Int))), (0, LV.sv (SV.lst (4 : Nat) (List.length l) fun i => Shf.cells (List.getD l i default))), (1, LV.sv (SV.lst (5 : Nat) (List.length b) fun i => Box.cells (List.getD b i default))), (2, LV.sv (SV.lst (2 : Nat) (List.length s) fun i => Std.cells (List.getD s i default))), (3, LV.sv (SV.int IntKind.i64 (↑i : Int)))], []⟩) (fun p => p ≤ i ∧ ∀ r, r < p → (s.getD i default).Boxes.getD j 0 ∉ (s.getD r default).Boxes) (fun p => i - p) (0) [(0 : Int) = (0 : Int), (↑(i - (0 : Nat)) : Int) = (↑i : Int), i - (0 : Nat) = i ∧ ∀ (i_1 : Nat), i_1 < i - (0 : Nat) → (fun i => (fun i => Std.cells (List.getD s i default)) (Int.toNat (0 : Int) + i)) i_1 = (fun p => Std.cells (List.getD s p default)) i_1, (↑q : Int) = (↑q : Int), List.getD (List.getD s i default).Boxes j (0 : Int) = List.getD (List.getD s i default).Boxes j (0 : Int), (↑j : Int) = (↑j : Int), (↑(List.length (List.getD s i default).Boxes) : Int) = (↑(List.length (List.getD s i default).Boxes) : Int), List.length (List.getD s i default).Boxes = List.length (List.getD s i default).Boxes ∧ ∀ (i_1 : Nat), i_1 < List.length (List.getD s i default).Boxes → (fun i_1 => [SV.int IntKind.i64 (List.getD (List.getD s i default).Boxes i_1 (0 : Int))]) i_1 = (fun i_1 => [SV.int IntKind.i64 (List.getD (List.getD s i default).Boxes i_1 (0 : Int))]) i_1, (↑m : Int) = (↑m : Int), List.length l = List.length l ∧ ∀ (i : Nat), i < List.length l → (fun i => Shf.cells (List.getD l i default)) i = (fun i => Shf.cells (List.getD l i default)) i, List.length b = List.length b ∧ ∀ (i : Nat), i < List.length b → (fun i => Box.cells (List.getD b i default)) i = (fun i => Box.cells (List.getD b i default)) i, List.length s = List.length s ∧ ∀ (i : Nat), i < List.length s → (fun i => Std.cells (List.getD s i default)) i = (fun p => Std.cells (List.getD s p default)) i, (↑i : Int) = (↑i : Int)] (by kernel_rfl) (by kernel_rfl) ⟨rfl, (by omega), ?_, rfl, rfl, rfl, rfl, ⟨rfl, fun _ _ => rfl⟩, rfl, ⟨rfl, fun _ _ => rfl⟩, ⟨rfl, fun _ _ => rfl⟩, ⟨rfl, fun _ _ => rfl⟩, rfl, trivial⟩ ⟨by omega, by omega⟩ ?_
              · exact ⟨by omega, fun r hr => by simp⟩
              intro p hp
              refine good_run 6 (obs := []) (by kernel_rfl) trivial ?_
              refine good_cond (decide ((↑p : Int) < (↑i : Int))) (by kernel_rfl) (fun hc7 => ?_) (fun hc7 => ?_)
              · have hpi : p < i := by simp only [decide_eq_true_eq] at hc7; omega
                refine good_run 16 (obs := [(2 : Nat) = (2 : Nat) ∧ (0 : Int) ≤ (↑p : Int) ∧ (↑p : Int) < (↑i : Int), (0 : Nat) + (2 : Nat) ≤ (2 : Nat), (2 : Nat) = (2 : Nat) ∧ (0 : Nat) + (2 : Nat) ≤ (2 : Nat)]) (by kernel_rfl) (by (first | omega | assumption | exact ⟨rfl, trivial⟩ | simp only [AllP, inK_iff, roomOK_iff, decide_eq_true_eq, Bool.and_eq_true, Bool.or_eq_true, Bool.not_eq_true', decide_eq_false_iff_not, and_true, true_and]; (first | omega | (and_intros <;> intros <;> (try and_intros) <;> first | omega | assumption | exact trivial)))) ?_
                refine good_call (c := True) (by kernel_rfl) (fun _ => SVles.refl _) (fun _ => s65 ((List.getD s p default).Boxes) (List.getD (List.getD s i default).Boxes j (0 : Int))) (by kernel_rfl) ?_
                refine good_run 2 (obs := []) (by kernel_rfl) trivial ?_
                refine good_cond (decide (List.getD (List.getD s i default).Boxes j (0 : Int) ∈ (List.getD s p default).Boxes)) (by kernel_rfl) (fun hc8 => ?_) (fun hc8 => ?_)
                · simp only [decide_eq_true_eq] at hc8
                  rw [if_pos (by
                    rw [decide_eq_true_eq, List.mem_append, mem_usedB]
                    refine .inl ⟨p, by rw [List.length_take]; omega, ?_⟩
                    rw [getD_take _ _ _ hpi]; exact hc8)] at hbj
                  rw [hbj, if_pos (by decide)] at hsj
                  rw [hsj, if_pos (by decide)] at hbb
                  rw [hbb]
                  refine good_run 8 (obs := []) (by kernel_rfl) trivial ?_
                  refine good_leaveJ (by kernel_rfl) ?_
                  refine good_run 4 (obs := []) (by kernel_rfl) trivial ?_
                  refine good_leaveJ (by kernel_rfl) ?_
                  refine good_run 2 (obs := []) (by kernel_rfl) trivial ?_
                  refine good_fin [(6 : Int) = (6 : Int)] (by kernel_rfl) ⟨rfl, trivial⟩
                · simp only [decide_eq_false_iff_not] at hc8
                  refine good_run 7 (obs := [InK IntKind.i64 ((↑p : Int) + (1 : Int))]) (by kernel_rfl) (by (first | omega | assumption | exact ⟨rfl, trivial⟩ | simp only [AllP, inK_iff, roomOK_iff, decide_eq_true_eq, Bool.and_eq_true, Bool.or_eq_true, Bool.not_eq_true', decide_eq_false_iff_not, and_true, true_and]; (first | omega | (and_intros <;> intros <;> (try and_intros) <;> first | omega | assumption | exact trivial)))) ?_
                  refine good_backJ (p + 1) [(↑p : Int) + (1 : Int) = (↑(p + (1 : Nat)) : Int), (↑i : Int) = (↑i : Int), i = i ∧ ∀ (i_1 : Nat), i_1 < i → (fun p => Std.cells (List.getD s p default)) i_1 = (fun p => Std.cells (List.getD s p default)) i_1, (↑q : Int) = (↑q : Int), List.getD (List.getD s i default).Boxes j (0 : Int) = List.getD (List.getD s i default).Boxes j (0 : Int), (↑j : Int) = (↑j : Int), (↑(List.length (List.getD s i default).Boxes) : Int) = (↑(List.length (List.getD s i default).Boxes) : Int), List.length (List.getD s i default).Boxes = List.length (List.getD s i default).Boxes ∧ ∀ (i_1 : Nat), i_1 < List.length (List.getD s i default).Boxes → (fun i_1 => [SV.int IntKind.i64 (List.getD (List.getD s i default).Boxes i_1 (0 : Int))]) i_1 = (fun i_1 => [SV.int IntKind.i64 (List.getD (List.getD s i default).Boxes i_1 (0 : Int))]) i_1, (↑m : Int) = (↑m : Int), List.length l = List.length l ∧ ∀ (i : Nat), i < List.length l → (fun i => Shf.cells (List.getD l i default)) i = (fun i => Shf.cells (List.getD l i default)) i, List.length b = List.length b ∧ ∀ (i : Nat), i < List.length b → (fun i => Box.cells (List.getD b i default)) i = (fun i => Box.cells (List.getD b i default)) i, List.length s = List.length s ∧ ∀ (i : Nat), i < List.length s → (fun p => Std.cells (List.getD s p default)) i = (fun p => Std.cells (List.getD s p default)) i, (↑i : Int) = (↑i : Int)] (by kernel_rfl) (by kernel_rfl) ⟨(by omega), rfl, ⟨rfl, fun _ _ => rfl⟩, rfl, rfl, rfl, rfl, ⟨rfl, fun _ _ => rfl⟩, rfl, ⟨rfl, fun _ _ => rfl⟩, ⟨rfl, fun _ _ => rfl⟩, ⟨rfl, fun _ _ => rfl⟩, rfl, trivial⟩ ?_ (by show _ < _; omega)
                  refine ⟨hpi, fun r hr => ?_⟩
                  rcases Nat.lt_or_ge r p with h | h
                  · exact hp.2 r h
                  · have : r = p := by omega
                    subst this; exact hc8
              · have hpi : p = i := by simp only [decide_eq_false_iff_not] at hc7; omega
                subst hpi
                rw [if_neg (by
                  rw [decide_eq_true_eq, List.mem_append, mem_usedB]
                  rintro (⟨r, hr, h⟩ | h)
                  · rw [List.length_take] at hr
                    rw [getD_take _ _ _ (by omega)] at h
                    exact hp.2 r (by omega) h
                  · exact hc6 h)] at hbj
                refine good_run 2 (obs := []) (by kernel_rfl) trivial ?_
                refine good_leaveJ (by kernel_rfl) ?_
                refine good_run 16 (obs := [True → (5 : Nat) = (5 : Nat) ∧ (0 : Int) ≤ (↑q : Int) ∧ (↑q : Int) < (↑(List.length b) : Int), True → (4 : Nat) = (4 : Nat) ∧ (0 : Int) ≤ (↑m : Int) ∧ (↑m : Int) < (↑(List.length l) : Int)]) (by kernel_rfl) (by (first | omega | assumption | exact ⟨rfl, trivial⟩ | simp only [AllP, inK_iff, roomOK_iff, decide_eq_true_eq, Bool.and_eq_true, Bool.or_eq_true, Bool.not_eq_true', decide_eq_false_iff_not, and_true, true_and]; (first | omega | (and_intros <;> intros <;> (try and_intros) <;> first | omega | assumption | exact trivial)))) ?_
                refine good_cond (!decide ((List.getD b q default).Climate = (List.getD l m default).Climate)) (by kernel_rfl) (fun hc8 => ?_) (fun hc8 => ?_)
                · simp only [Bool.not_eq_true', decide_eq_false_iff_not] at hc8
                  rw [if_pos hc8] at hbj
                  rw [hbj, if_pos (by decide)] at hsj
                  rw [hsj, if_pos (by decide)] at hbb
                  rw [hbb]
                  refine good_run 8 (obs := []) (by kernel_rfl) trivial ?_
                  refine good_leaveJ (by kernel_rfl) ?_
                  refine good_run 2 (obs := []) (by kernel_rfl) trivial ?_
                  refine good_fin [(10 : Int) = (10 : Int)] (by kernel_rfl) ⟨rfl, trivial⟩
                · simp only [Bool.not_eq_false', decide_eq_true_eq] at hc8
                  rw [if_neg (fun h => h hc8)] at hbj
                  rw [hbj, if_neg (fun h => h rfl)] at hsj
                  refine good_run 7 (obs := [InK IntKind.i64 ((↑j : Int) + (1 : Int))]) (by kernel_rfl) (by (first | omega | assumption | exact ⟨rfl, trivial⟩ | simp only [AllP, inK_iff, roomOK_iff, decide_eq_true_eq, Bool.and_eq_true, Bool.or_eq_true, Bool.not_eq_true', decide_eq_false_iff_not, and_true, true_and]; (first | omega | (and_intros <;> intros <;> (try and_intros) <;> first | omega | assumption | exact trivial)))) ?_
                  refine good_backJ (j + 1) [(↑j : Int) + (1 : Int) = (↑(j + (1 : Nat)) : Int), (↑(List.length (List.getD s p default).Boxes) : Int) = (↑(List.length (List.getD s p default).Boxes) : Int), List.length (List.getD s p default).Boxes = List.length (List.getD s p default).Boxes ∧ ∀ (i : Nat), i < List.length (List.getD s p default).Boxes → (fun i => [SV.int IntKind.i64 (List.getD (List.getD s p default).Boxes i (0 : Int))]) i = (fun i_1 => [SV.int IntKind.i64 (List.getD (List.getD s p default).Boxes i_1 (0 : Int))]) i, (↑m : Int) = (↑m : Int), List.length l = List.length l ∧ ∀ (i : Nat), i < List.length l → (fun i => Shf.cells (List.getD l i default)) i = (fun i => Shf.cells (List.getD l i default)) i, List.length b = List.length b ∧ ∀ (i : Nat), i < List.length b → (fun i => Box.cells (List.getD b i default)) i = (fun i => Box.cells (List.getD b i default)) i, List.length s = List.length s ∧ ∀ (i : Nat), i < List.length s → (fun i => Std.cells (List.getD s i default)) i = (fun i => Std.cells (List.getD s i default)) i, (↑p : Int) = (↑p : Int)] (by kernel_rfl) (by kernel_rfl) ⟨(by omega), rfl, ⟨rfl, fun _ _ => rfl⟩, rfl, ⟨rfl, fun _ _ => rfl⟩, ⟨rfl, fun _ _ => rfl⟩, ⟨rfl, fun _ _ => rfl⟩, rfl, trivial⟩ ?_ (by show _ < _; omega)
                  refine ⟨hjt, hsj.symm, fun r hr => ?_⟩
                  rcases Nat.lt_or_ge r j with h | h
                  · exact hj2 r h
                  · have : r = j := by omega
                    subst this; exact g1
        · have hjt : j = (s.getD i default).Boxes.length := by simp only [decide_eq_false_iff_not] at hc4; omega
          rw [hjt, errFrom_end] at hj1
          rw [← hj1, if_neg (fun h => h rfl)] at hbb
          have hall : ∀ id ∈ (s.getD i default).Boxes, isK b Box.ID id = true := fun id hid => by
            obtain ⟨r, hr, e⟩ := List.mem_iff_getElem.1 hid
            have := hj2 r (by omega)
            rwa [getD_of_lt _ r hr, e] at this
          refine good_run 2 (obs := []) (by kernel_rfl) trivial ?_
          refine good_leaveJ (by kernel_rfl) ?_
          refine good_run 10 (obs := [True → (2 : Nat) = (2 : Nat) ∧ (0 : Int) ≤ (↑i : Int) ∧ (↑i : Int) < (↑(List.length s) : Int)]) (by kernel_rfl) (by (first | omega | assumption | exact ⟨rfl, trivial⟩ | simp only [AllP, inK_iff, roomOK_iff, decide_eq_true_eq, Bool.and_eq_true, Bool.or_eq_true, Bool.not_eq_true', decide_eq_false_iff_not, and_true, true_and]; (first | omega | (and_intros <;> intros <;> (try and_intros) <;> first | omega | assumption | exact trivial)))) ?_
          refine good_call (c := True) (by kernel_rfl) (fun _ => SVles.refl _) (fun _ => s47 (b) ((List.getD s i default).Boxes) (by (first | omega | assumption | exact ⟨rfl, trivial⟩ | simp only [AllP, inK_iff, roomOK_iff, decide_eq_true_eq, Bool.and_eq_true, Bool.or_eq_true, Bool.not_eq_true', decide_eq_false_iff_not, and_true, true_and]; (first | omega | (and_intros <;> intros <;> (try and_intros) <;> first | omega | assumption | exact trivial)))) (by (first | omega | assumption | exact ⟨rfl, trivial⟩ | simp only [AllP, inK_iff, roomOK_iff, decide_eq_true_eq, Bool.and_eq_true, Bool.or_eq_true, Bool.not_eq_true', decide_eq_false_iff_not, and_true, true_and]; (first | omega | (and_intros <;> intros <;> (try and_intros) <;> first | omega | assumption | exact trivial)))) (by (first | omega | assumption | exact ⟨rfl, trivial⟩ | simp only [AllP, inK_iff, roomOK_iff, decide_eq_true_eq, Bool.and_eq_true, Bool.or_eq_true, Bool.not_eq_true', decide_eq_false_iff_not, and_true, true_and]; (first | omega | (and_intros <;> intros <;> (try and_intros) <;> first | omega | assumption | exact trivial))))) (by kernel_rfl) ?_
          refine good_run 8 (obs := [True → (4 : Nat) = (4 : Nat) ∧ (0 : Int) ≤ (↑m : Int) ∧ (↑m : Int) < (↑(List.length l) : Int)]) (by kernel_rfl) (by (first | omega | assumption | exact ⟨rfl, trivial⟩ | simp only [AllP, inK_iff, roomOK_iff, decide_eq_true_eq, Bool.and_eq_true, Bool.or_eq_true, Bool.not_eq_true', decide_eq_false_iff_not, and_true, true_and]; (first | omega | (and_intros <;> intros <;> (try and_intros) <;> first | omega | assumption | exact trivial)))) ?_
          refine good_cond (decide ((List.getD l m default).Length < widthI b (List.getD s i default).Boxes)) (by kernel_rfl) (fun hc5 => ?_) (fun hc5 => ?_)
          · simp only [decide_eq_true_eq] at hc5
            rw [if_pos (by omega)] at hbb
            rw [hbb]
            refine good_run 7 (obs := []) (by kernel_rfl) trivial ?_
            refine good_fin [(12 : Int) = (12 : Int)] (by kernel_rfl) ⟨rfl, trivial⟩
          · simp only [decide_eq_false_iff_not] at hc5
            rw [if_neg (by omega)] at hbb
            rw [hbb]
            refine good_run 7 (obs := []) (by kernel_rfl) trivial ?_
            refine good_fin [(0 : Int) = (0 : Int)] (by kernel_rfl) ⟨rfl, trivial⟩
end Go.Sx.T
