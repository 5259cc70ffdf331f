/- Contracts of functions of the program, each proved by running its code symbolically (HR). -/
import Derived.Test.YtgnffeajpmniiaaHQ
namespace Go.Sx.T
open Go Go.Proofs Go.Sx
set_option maxRecDepth 100000
set_option maxHeartbeats 4000000
set_option linter.unusedVariables false
set_option linter.unusedSimpArgs false
theorem s33 (l : List Std) (h : l.length ≤ 100000) (hl : ∀ b ∈ l, b.Boxes.length ≤ 100000) : SpecOwn Try.prog 33 [stds l] 47 2 l.length fun i => (l.getD i default).cells := by
  refine specOwn_of_good mixed Try.func33 F33_ok (by kernel_rfl) ?_
  refine good_run 22 (obs := [(47 : Nat) = (47 : Nat) ∧ (2 : Nat) = (2 : Nat) ∧ (2 : Nat) = (2 : Nat) ∧ roomOK ((0 : Nat) + List.length l) (32 : Nat)]) (by kernel_rfl) (by (first | omega | assumption | exact ⟨rfl, trivial⟩ | simp only [AllP, inK_iff, roomOK_iff, decide_eq_true_eq, Bool.and_eq_true, Bool.or_eq_true, Bool.not_eq_true', decide_eq_false_iff_not, and_true, true_and]; (first | omega | (and_intros <;> intros <;> (try and_intros) <;> first | omega | assumption | exact trivial)))) ?_
  refine good_loopJ (fun k : Nat => ⟨[(10, .sv (.int .i64 (k))), (9, LV.sv (SV.int IntKind.i64 (↑((0 : Nat) + List.length l) : Int))), (3, LV.own (0 : Nat))], [.row 47 2 l.length true fun i => Std.cells (List.getD l i default)]⟩) (fun k => k ≤ l.length) (fun k => l.length - k) (0) [(0 : Nat) + List.length l = List.length l ∧ ∀ (i : Nat), i < (0 : Nat) + List.length l → joinGet (0 : Nat) (cutRows (2 : Nat) []) (fun i => Std.cells (List.getD l i default)) i = (fun i => Std.cells (List.getD l i default)) i, (0 : Int) = (0 : Int), (↑((0 : Nat) + List.length l) : Int) = (↑((0 : Nat) + List.length l) : Int)] (by kernel_rfl) (by kernel_rfl) ⟨?_, rfl, rfl, trivial⟩ (by omega) ?_
  · exact ⟨by omega, fun i hi => by simp [joinGet]⟩
  intro k hk
  refine good_run 6 (obs := []) (by kernel_rfl) trivial ?_
  refine good_cond (decide ((↑k : Int) < (↑((0 : Nat) + List.length l) : Int))) (by kernel_rfl) (fun hc1 => ?_) (fun hc1 => ?_)
  · have hlt : k < l.length := by simp at hc1; omega
    have := hl _ (getD_mem l default k hlt)
    refine good_run 30 (obs := [(2 : Nat) = (2 : Nat) ∧ (0 : Int) ≤ (↑k : Int) ∧ (↑k : Int) < (↑(List.length l) : Int), (3 : Nat) = (3 : Nat) ∧ (1 : Nat) = (1 : Nat) ∧ (1 : Nat) = (1 : Nat) ∧ roomOK ((0 : Nat) + List.length (List.getD l k default).Boxes) (8 : Nat), (2 : Nat) = (2 : Nat) ∧ (0 : Int) ≤ (↑k : Int) ∧ (↑k : Int) < (↑(List.length l) : Int), (1 : Nat) = (1 : Nat) ∧ (1 : Nat) + (1 : Nat) ≤ (2 : Nat), InK IntKind.i64 ((↑k : Int) + (1 : Int))]) (by kernel_rfl) (by (first | omega | assumption | exact ⟨rfl, trivial⟩ | simp only [AllP, inK_iff, roomOK_iff, decide_eq_true_eq, Bool.and_eq_true, Bool.or_eq_true, Bool.not_eq_true', decide_eq_false_iff_not, and_true, true_and]; (first | omega | (and_intros <;> intros <;> (try and_intros) <;> first | omega | assumption | exact trivial)))) ?_
    refine good_backJ (k + 1) [List.length l = List.length l ∧ ∀ (i : Nat), i < List.length l → (fun j => if j = k then lay ((fun i => Std.cells (List.getD l i default)) k) (1 : Nat) [SV.lst (1 : Nat) ((0 : Nat) + List.length (List.getD l k default).Boxes) (joinGet (0 : Nat) (cutRows (1 : Nat) []) fun i => [SV.int IntKind.i64 (List.getD (List.getD l k default).Boxes i (0 : Int))])] else (fun i => Std.cells (List.getD l i default)) j) i = (fun i => Std.cells (List.getD l i default)) i, (↑k : Int) + (1 : Int) = (↑(k + (1 : Nat)) : Int), (↑((0 : Nat) + List.length l) : Int) = (↑((0 : Nat) + List.length l) : Int)] (by kernel_rfl) (by kernel_rfl) ⟨?_, (by omega), rfl, trivial⟩ (by omega) (by show _ < _; omega)
    refine ⟨rfl, fun i hi => ?_⟩
    show (if i = k then _ else _) = _
    split
    · rename_i e; subst e; rw [joinGet_zero]; simp only [Nat.zero_add]; rfl
    · rfl
  · refine good_run 2 (obs := []) (by kernel_rfl) trivial ?_
    refine good_leaveJ (by kernel_rfl) ?_
    refine good_run 8 (obs := []) (by kernel_rfl) trivial ?_
    refine good_finOwn [List.length l = List.length l ∧ ∀ (j : Nat), j < List.length l → (fun i => Std.cells (List.getD l i default)) j = (fun i => Std.cells (List.getD l i default)) j] (by kernel_rfl) ⟨⟨rfl, fun _ _ => rfl⟩, trivial⟩
theorem s55 (l : List Std) (h : l.length ≤ 100000) (hl : ∀ b ∈ l, b.Boxes.length ≤ 100000) : SpecOwn Try.prog 55 [stds l] 47 2 l.length fun i => (l.getD i default).cells := by
  refine specOwn_of_good mixed Try.func55 F55_ok (by kernel_rfl) ?_
  refine good_run 8 (obs := []) (by kernel_rfl) trivial ?_
  refine good_own (c := True) (by kernel_rfl) (by kernel_rfl) (SVles.refl _) (s76 (List.length l) (fun i => Std.cells (List.getD l i default)) (by (first | omega | assumption | exact ⟨rfl, trivial⟩ | simp only [AllP, inK_iff, roomOK_iff, decide_eq_true_eq, Bool.and_eq_true, Bool.or_eq_true, Bool.not_eq_true', decide_eq_false_iff_not, and_true, true_and]; (first | omega | (and_intros <;> intros <;> (try and_intros) <;> first | omega | assumption | exact trivial))))) ?_
  refine good_run 12 (obs := []) (by kernel_rfl) trivial ?_
  refine good_loopJ (fun k : Nat => ⟨[(9, .sv (.int .i64 (k))), (8, LV.sv (SV.int IntKind.i64 (↑(List.length l) : Int))), (3, LV.own (0 : Nat))], [Blk.row (47 : Nat) (2 : Nat) (List.length l) true fun i => Std.cells (List.getD l i default)]⟩) (fun k => k ≤ l.length) (fun k => l.length - k) (0) [List.length l = List.length l ∧ ∀ (i : Nat), i < List.length l → (fun i => Std.cells (List.getD l i default)) i = (fun i => Std.cells (List.getD l i default)) i, (0 : Int) = (0 : Int), (↑(List.length l) : Int) = (↑(List.length l) : Int)] (by kernel_rfl) (by kernel_rfl) ⟨⟨rfl, fun _ _ => rfl⟩, rfl, rfl, trivial⟩ (by omega) ?_
  intro k hk
  refine good_run 6 (obs := []) (by kernel_rfl) trivial ?_
  refine good_cond (decide ((↑k : Int) < (↑(List.length l) : Int))) (by kernel_rfl) (fun hc1 => ?_) (fun hc1 => ?_)
  · have hlt : k < l.length := by simp at hc1; omega
    have := hl _ (getD_mem l default k hlt)
    refine good_run 17 (obs := [(2 : Nat) = (2 : Nat) ∧ (0 : Int) ≤ (↑k : Int) ∧ (↑k : Int) < (↑(List.length l) : Int)]) (by kernel_rfl) (by (first | omega | assumption | exact ⟨rfl, trivial⟩ | simp only [AllP, inK_iff, roomOK_iff, decide_eq_true_eq, Bool.and_eq_true, Bool.or_eq_true, Bool.not_eq_true', decide_eq_false_iff_not, and_true, true_and]; (first | omega | (and_intros <;> intros <;> (try and_intros) <;> first | omega | assumption | exact trivial)))) ?_
    refine good_own (c := True) (by kernel_rfl) (by kernel_rfl) (SVles.refl _) (s77 (List.length (List.getD l k default).Boxes) (fun i => [SV.int IntKind.i64 (List.getD (List.getD l k default).Boxes i (0 : Int))]) (by (first | omega | assumption | exact ⟨rfl, trivial⟩ | simp only [AllP, inK_iff, roomOK_iff, decide_eq_true_eq, Bool.and_eq_true, Bool.or_eq_true, Bool.not_eq_true', decide_eq_false_iff_not, and_true, true_and]; (first | omega | (and_intros <;> intros <;> (try and_intros) <;> first | omega | assumption | exact trivial))))) ?_
    refine good_run 11 (obs := [(2 : Nat) = (2 : Nat) ∧ (0 : Int) ≤ (↑k : Int) ∧ (↑k : Int) < (↑(List.length l) : Int), (1 : Nat) = (1 : Nat) ∧ (1 : Nat) + (1 : Nat) ≤ (2 : Nat), InK IntKind.i64 ((↑k : Int) + (1 : Int))]) (by kernel_rfl) (by (first | omega | assumption | exact ⟨rfl, trivial⟩ | simp only [AllP, inK_iff, roomOK_iff, decide_eq_true_eq, Bool.and_eq_true, Bool.or_eq_true, Bool.not_eq_true', decide_eq_false_iff_not, and_true, true_and]; (first | omega | (and_intros <;> intros <;> (try and_intros) <;> first | omega | assumption | exact trivial)))) ?_
    refine good_backJ (k + 1) [List.length l = List.length l ∧ ∀ (i : Nat), i < List.length l → (fun j => if j = k then lay ((fun i => Std.cells (List.getD l i default)) k) (1 : Nat) [SV.lst (1 : Nat) (List.length (List.getD l k default).Boxes) fun i => [SV.int IntKind.i64 (List.getD (List.getD l k default).Boxes i (0 : Int))]] else (fun i => Std.cells (List.getD l i default)) j) i = (fun i => Std.cells (List.getD l i default)) i, (↑k : Int) + (1 : Int) = (↑(k + (1 : Nat)) : Int), (↑(List.length l) : Int) = (↑(List.length l) : Int)] (by kernel_rfl) (by kernel_rfl) ⟨?_, (by omega), rfl, trivial⟩ (by omega) (by show _ < _; omega)
    refine ⟨rfl, fun i hi => ?_⟩
    show (if i = k then _ else _) = _
    split
    · rename_i e; subst e; rfl
    · rfl
  · refine good_run 2 (obs := []) (by kernel_rfl) trivial ?_
    refine good_leaveJ (by kernel_rfl) ?_
    refine good_run 8 (obs := []) (by kernel_rfl) trivial ?_
    refine good_finOwn [List.length l = List.length l ∧ ∀ (j : Nat), j < List.length l → (fun i => Std.cells (List.getD l i default)) j = (fun i => Std.cells (List.getD l i default)) j] (by kernel_rfl) ⟨⟨rfl, fun _ _ => rfl⟩, trivial⟩
/-- A copy in which the contents of one box are a row of its own. -/
def holeC (l : List Std) (i : Nat) (v : Value) (k : Nat) : SV := if k = i then .val v else ints (l.getD k default).Boxes
def holeRow (l : List Std) (i : Nat) (v : Value) (k : Nat) : List SV := [.int .i64 (l.getD k default).Shelf, holeC l i v k]
theorem holeC_ne {l : List Std} {i : Nat} {v : Value} {k : Nat} (h : k ≠ i) : holeC l i v k = ints (l.getD k default).Boxes := if_neg h
theorem holeC_eq {l : List Std} {i : Nat} {v : Value} : holeC l i v i = .val v := if_pos rfl
theorem holeC_le {l : List Std} {i : Nat} {v : Value} {k : Nat} (h : k ≠ i) : SVle (holeC l i v k) (ints (l.getD k default).Boxes) := by rw [holeC_ne h]; exact SVle.refl _
theorem holeC_own {l : List Std} {i : Nat} {v : Value} : SVle (holeC l i v i) (.val v) := by rw [holeC_eq]; exact SVle.refl _
def contRow (l : List Std) (i : Nat) : Blk := .row 3 1 (l.getD i default).Boxes.length true fun k => [SV.int .i64 ((l.getD i default).Boxes.getD k 0)]
def holeOut (l : List Std) (i : Nat) (o : Out) : Prop := ∃ A c, o = ⟨[.own 0], [.row 47 2 l.length true (holeRow l i (.slice A (l.getD i default).Boxes.length c)), contRow l i], [(1, .slice A (l.getD i default).Boxes.length c)]⟩
theorem s55x (l : List Std) (i : Nat) (hi : i < l.length) (h : l.length ≤ 100000) (hl : ∀ b ∈ l, b.Boxes.length ≤ 100000) : SpecX Try.prog 55 (fun _ => undef) [.sv (stds l)] [] (holeOut l i) := by
  refine specX_of_good mixed Try.func55 F55_ok (by kernel_rfl) (by kernel_rfl) (by kernel_rfl) ?_
  refine good_run 8 (obs := []) (by kernel_rfl) trivial ?_
  refine good_own (c := True) (by kernel_rfl) (by kernel_rfl) (SVles.refl _) (s76 (List.length l) (fun i => Std.cells (List.getD l i default)) (by (first | omega | assumption | exact ⟨rfl, trivial⟩ | simp only [AllP, inK_iff, roomOK_iff, decide_eq_true_eq, Bool.and_eq_true, Bool.or_eq_true, Bool.not_eq_true', decide_eq_false_iff_not, and_true, true_and]; (first | omega | (and_intros <;> intros <;> (try and_intros) <;> first | omega | assumption | exact trivial))))) ?_
  refine good_run 12 (obs := []) (by kernel_rfl) trivial ?_
  refine good_loopJ (fun q : Nat × Option (Option Addr × Nat) => match q with | (k, none) => ⟨[(9, .sv (.int .i64 k)), (8, .sv (.int .i64 l.length)), (3, .own 0)], [.row 47 2 l.length true fun i => (l.getD i default).cells]⟩ | (k, some p) => ⟨[(9, .sv (.int .i64 k)), (8, .sv (.int .i64 l.length)), (3, .own 0), (nmSlot 1, .isv 1 (.slice p.1 (l.getD i default).Boxes.length p.2))], [.row 47 2 l.length true (holeRow l i (.slice p.1 (l.getD i default).Boxes.length p.2)), contRow l i]⟩) (fun q => q.1 ≤ l.length ∧ (q.2 = none → q.1 ≤ i) ∧ (q.2 ≠ none → i < q.1)) (fun q => l.length - q.1) ((0, none)) [List.length l = List.length l ∧ ∀ (i : Nat), i < List.length l → (fun i => Std.cells (List.getD l i default)) i = (fun i => Std.cells (List.getD l i default)) i, (0 : Int) = (0 : Int), (↑(List.length l) : Int) = (↑(List.length l) : Int)] (by kernel_rfl) (by kernel_rfl) ⟨⟨rfl, fun _ _ => rfl⟩, rfl, rfl, trivial⟩ ?_ ?_
  · exact ⟨by omega, by simp, by simp⟩
  rintro ⟨k, _ | p⟩ ⟨hk1, hk2, hk3⟩
  · have hki := hk2 rfl
    simp only at hk1 hki
    refine good_run 6 (obs := []) (by kernel_rfl) trivial ?_
    refine good_cond (decide ((↑k : Int) < (↑(List.length l) : Int))) (by kernel_rfl) (fun hc1 => ?_) (fun hc1 => ?_)
    · have hlt : k < l.length := by simp at hc1; omega
      have := hl _ (getD_mem l default k hlt)
      by_cases e : k = i
      · subst e
        refine good_run 17 (obs := [(2 : Nat) = (2 : Nat) ∧ (0 : Int) ≤ (↑k : Int) ∧ (↑k : Int) < (↑(List.length l) : Int)]) (by kernel_rfl) (by (first | omega | assumption | exact ⟨rfl, trivial⟩ | simp only [AllP, inK_iff, roomOK_iff, decide_eq_true_eq, Bool.and_eq_true, Bool.or_eq_true, Bool.not_eq_true', decide_eq_false_iff_not, and_true, true_and]; (first | omega | (and_intros <;> intros <;> (try and_intros) <;> first | omega | assumption | exact trivial)))) ?_
        refine good_own (c := True) (by kernel_rfl) (by kernel_rfl) (SVles.refl _) (s77 (List.length (List.getD l k default).Boxes) (fun i => [SV.int IntKind.i64 (List.getD (List.getD l k default).Boxes i (0 : Int))]) (by (first | omega | assumption | exact ⟨rfl, trivial⟩ | simp only [AllP, inK_iff, roomOK_iff, decide_eq_true_eq, Bool.and_eq_true, Bool.or_eq_true, Bool.not_eq_true', decide_eq_false_iff_not, and_true, true_and]; (first | omega | (and_intros <;> intros <;> (try and_intros) <;> first | omega | assumption | exact trivial))))) ?_
        refine good_run 2 (obs := [(2 : Nat) = (2 : Nat) ∧ (0 : Int) ≤ (↑k : Int) ∧ (↑k : Int) < (↑(List.length l) : Int)]) (by kernel_rfl) (by (first | omega | assumption | exact ⟨rfl, trivial⟩ | simp only [AllP, inK_iff, roomOK_iff, decide_eq_true_eq, Bool.and_eq_true, Bool.or_eq_true, Bool.not_eq_true', decide_eq_false_iff_not, and_true, true_and]; (first | omega | (and_intros <;> intros <;> (try and_intros) <;> first | omega | assumption | exact trivial)))) ?_
        refine good_tagRow 1 (t := (3 : Nat)) (sz := (1 : Nat)) (n := List.length (List.getD l k default).Boxes) (mu := true) (get := fun i => [SV.int IntKind.i64 (List.getD (List.getD l k default).Boxes i (0 : Int))]) (by kernel_rfl) (fun A c => ?_)
        refine good_val 19 1 (Value.slice A (List.length (List.getD l k default).Boxes) c) (by kernel_rfl) ?_
        refine good_run 9 (obs := [(1 : Nat) = (1 : Nat) ∧ (1 : Nat) + (1 : Nat) ≤ (2 : Nat), InK IntKind.i64 ((↑k : Int) + (1 : Int))]) (by kernel_rfl) (by (first | omega | assumption | exact ⟨rfl, trivial⟩ | simp only [AllP, inK_iff, roomOK_iff, decide_eq_true_eq, Bool.and_eq_true, Bool.or_eq_true, Bool.not_eq_true', decide_eq_false_iff_not, and_true, true_and]; (first | omega | (and_intros <;> intros <;> (try and_intros) <;> first | omega | assumption | exact trivial)))) ?_
        refine good_backJ ((k + 1, some (A, c))) [List.length l = List.length l ∧ ∀ (i : Nat), i < List.length l → (fun j => if j = k then lay ((fun i => Std.cells (List.getD l i default)) k) (1 : Nat) [SV.val (Value.slice A (List.length (List.getD l k default).Boxes) c)] else (fun i => Std.cells (List.getD l i default)) j) i = holeRow l k (Value.slice (A, c).fst (List.length (List.getD l k default).Boxes) (A, c).snd) i, List.length (List.getD l k default).Boxes = List.length (List.getD l k default).Boxes ∧ ∀ (i : Nat), i < List.length (List.getD l k default).Boxes → (fun i => [SV.int IntKind.i64 (List.getD (List.getD l k default).Boxes i (0 : Int))]) i = (fun k_1 => [SV.int IntKind.i64 (List.getD (List.getD l k default).Boxes k_1 (0 : Int))]) i, (↑k : Int) + (1 : Int) = (↑(k + (1 : Nat)) : Int), (↑(List.length l) : Int) = (↑(List.length l) : Int), Value.slice A (List.length (List.getD l k default).Boxes) c = Value.slice (A, c).fst (List.length (List.getD l k default).Boxes) (A, c).snd] (by kernel_rfl) (by kernel_rfl) ⟨?_, ⟨rfl, fun _ _ => rfl⟩, (by omega), rfl, rfl, trivial⟩ ?_ (by show _ < _; omega)
        · refine ⟨rfl, fun i hi => ?_⟩
          show (if i = k then _ else _) = holeRow l k _ i
          split
          · rename_i e; subst e; unfold holeRow; rw [holeC_eq]; rfl
          · rename_i e; unfold holeRow; rw [holeC_ne e]; rfl
        · exact ⟨hlt, by simp, by simp⟩
      · refine good_run 17 (obs := [(2 : Nat) = (2 : Nat) ∧ (0 : Int) ≤ (↑k : Int) ∧ (↑k : Int) < (↑(List.length l) : Int)]) (by kernel_rfl) (by (first | omega | assumption | exact ⟨rfl, trivial⟩ | simp only [AllP, inK_iff, roomOK_iff, decide_eq_true_eq, Bool.and_eq_true, Bool.or_eq_true, Bool.not_eq_true', decide_eq_false_iff_not, and_true, true_and]; (first | omega | (and_intros <;> intros <;> (try and_intros) <;> first | omega | assumption | exact trivial)))) ?_
        refine good_own (c := True) (by kernel_rfl) (by kernel_rfl) (SVles.refl _) (s77 (List.length (List.getD l k default).Boxes) (fun i => [SV.int IntKind.i64 (List.getD (List.getD l k default).Boxes i (0 : Int))]) (by (first | omega | assumption | exact ⟨rfl, trivial⟩ | simp only [AllP, inK_iff, roomOK_iff, decide_eq_true_eq, Bool.and_eq_true, Bool.or_eq_true, Bool.not_eq_true', decide_eq_false_iff_not, and_true, true_and]; (first | omega | (and_intros <;> intros <;> (try and_intros) <;> first | omega | assumption | exact trivial))))) ?_
        refine good_run 11 (obs := [(2 : Nat) = (2 : Nat) ∧ (0 : Int) ≤ (↑k : Int) ∧ (↑k : Int) < (↑(List.length l) : Int), (1 : Nat) = (1 : Nat) ∧ (1 : Nat) + (1 : Nat) ≤ (2 : Nat), InK IntKind.i64 ((↑k : Int) + (1 : Int))]) (by kernel_rfl) (by (first | omega | assumption | exact ⟨rfl, trivial⟩ | simp only [AllP, inK_iff, roomOK_iff, decide_eq_true_eq, Bool.and_eq_true, Bool.or_eq_true, Bool.not_eq_true', decide_eq_false_iff_not, and_true, true_and]; (first | omega | (and_intros <;> intros <;> (try and_intros) <;> first | omega | assumption | exact trivial)))) ?_
        refine good_backJ ((k + 1, none)) [List.length l = List.length l ∧ ∀ (i : Nat), i < List.length l → (fun j => if j = k then lay ((fun i => Std.cells (List.getD l i default)) k) (1 : Nat) [SV.lst (1 : Nat) (List.length (List.getD l k default).Boxes) fun i => [SV.int IntKind.i64 (List.getD (List.getD l k default).Boxes i (0 : Int))]] else (fun i => Std.cells (List.getD l i default)) j) i = (fun i => Std.cells (List.getD l i default)) i, (↑k : Int) + (1 : Int) = (↑(k + (1 : Nat)) : Int), (↑(List.length l) : Int) = (↑(List.length l) : Int)] (by kernel_rfl) (by kernel_rfl) ⟨?_, (by omega), rfl, trivial⟩ ?_ (by show _ < _; omega)
        · refine ⟨rfl, fun i hi => ?_⟩
          show (if i = k then _ else _) = _
          split
          · rename_i e; subst e; rfl
          · rfl
        · exact ⟨hlt, fun _ => by show k + 1 ≤ i; omega, by simp⟩
    · exfalso; simp at hc1; omega
  · have hki : i < k := hk3 (by simp)
    simp only at hk1 hki
    obtain ⟨A, c⟩ := p
    refine good_run 6 (obs := []) (by kernel_rfl) trivial ?_
    refine good_cond (decide ((↑k : Int) < (↑(List.length l) : Int))) (by kernel_rfl) (fun hc1 => ?_) (fun hc1 => ?_)
    · have hlt : k < l.length := by simp at hc1; omega
      have := hl _ (getD_mem l default k hlt)
      refine good_run 17 (obs := [(2 : Nat) = (2 : Nat) ∧ (0 : Int) ≤ (↑k : Int) ∧ (↑k : Int) < (↑(List.length l) : Int)]) (by kernel_rfl) (by (first | omega | assumption | exact ⟨rfl, trivial⟩ | simp only [AllP, inK_iff, roomOK_iff, decide_eq_true_eq, Bool.and_eq_true, Bool.or_eq_true, Bool.not_eq_true', decide_eq_false_iff_not, and_true, true_and]; (first | omega | (and_intros <;> intros <;> (try and_intros) <;> first | omega | assumption | exact trivial)))) ?_
      refine good_sv 18 (a := holeC l i (Value.slice (A, c).fst (List.length (List.getD l i default).Boxes) (A, c).snd) k) (ints (l.getD k default).Boxes) (by kernel_rfl) (holeC_le (by omega)) ?_
      refine good_own (c := True) (by kernel_rfl) (by kernel_rfl) (SVles.refl _) (s77 (List.length (List.getD l k default).Boxes) (fun i => [SV.int IntKind.i64 (List.getD (List.getD l k default).Boxes i (0 : Int))]) (by (first | omega | assumption | exact ⟨rfl, trivial⟩ | simp only [AllP, inK_iff, roomOK_iff, decide_eq_true_eq, Bool.and_eq_true, Bool.or_eq_true, Bool.not_eq_true', decide_eq_false_iff_not, and_true, true_and]; (first | omega | (and_intros <;> intros <;> (try and_intros) <;> first | omega | assumption | exact trivial))))) ?_
      refine good_run 11 (obs := [(2 : Nat) = (2 : Nat) ∧ (0 : Int) ≤ (↑k : Int) ∧ (↑k : Int) < (↑(List.length l) : Int), (1 : Nat) = (1 : Nat) ∧ (1 : Nat) + (1 : Nat) ≤ (2 : Nat), InK IntKind.i64 ((↑k : Int) + (1 : Int))]) (by kernel_rfl) (by (first | omega | assumption | exact ⟨rfl, trivial⟩ | simp only [AllP, inK_iff, roomOK_iff, decide_eq_true_eq, Bool.and_eq_true, Bool.or_eq_true, Bool.not_eq_true', decide_eq_false_iff_not, and_true, true_and]; (first | omega | (and_intros <;> intros <;> (try and_intros) <;> first | omega | assumption | exact trivial)))) ?_
      refine good_backJ ((k + 1, some (A, c))) [List.length l = List.length l ∧ ∀ (i_1 : Nat), i_1 < List.length l → (fun j => if j = k then lay (holeRow l i (Value.slice (A, c).fst (List.length (List.getD l i default).Boxes) (A, c).snd) k) (1 : Nat) [SV.lst (1 : Nat) (List.length (List.getD l k default).Boxes) fun i => [SV.int IntKind.i64 (List.getD (List.getD l k default).Boxes i (0 : Int))]] else holeRow l i (Value.slice (A, c).fst (List.length (List.getD l i default).Boxes) (A, c).snd) j) i_1 = holeRow l i (Value.slice (A, c).fst (List.length (List.getD l i default).Boxes) (A, c).snd) i_1, List.length (List.getD l i default).Boxes = List.length (List.getD l i default).Boxes ∧ ∀ (i_1 : Nat), i_1 < List.length (List.getD l i default).Boxes → (fun k => [SV.int IntKind.i64 (List.getD (List.getD l i default).Boxes k (0 : Int))]) i_1 = (fun k => [SV.int IntKind.i64 (List.getD (List.getD l i default).Boxes k (0 : Int))]) i_1, (↑k : Int) + (1 : Int) = (↑(k + (1 : Nat)) : Int), (↑(List.length l) : Int) = (↑(List.length l) : Int), Value.slice (A, c).fst (List.length (List.getD l i default).Boxes) (A, c).snd = Value.slice (A, c).fst (List.length (List.getD l i default).Boxes) (A, c).snd] (by kernel_rfl) (by kernel_rfl) ⟨?_, ⟨rfl, fun _ _ => rfl⟩, (by omega), rfl, rfl, trivial⟩ ?_ (by show _ < _; omega)
      · refine ⟨rfl, fun j hj => ?_⟩
        show (if j = k then _ else _) = holeRow l i _ j
        split
        · rename_i e; subst e; unfold holeRow; rw [holeC_ne (by omega)]; rfl
        · rfl
      · exact ⟨hlt, by simp, fun _ => by show i < k + 1; omega⟩
    · refine good_run 2 (obs := []) (by kernel_rfl) trivial ?_
      refine good_leaveJ (by kernel_rfl) ?_
      refine good_run 8 (obs := []) (by kernel_rfl) trivial ?_
      refine good_finX (⟨[.own 0], [.row 47 2 l.length true (holeRow l i (.slice A (l.getD i default).Boxes.length c)), contRow l i], [(1, .slice A (l.getD i default).Boxes.length c)]⟩) (⟨A, c, rfl⟩) [List.length l = List.length l ∧ ∀ (i_1 : Nat), i_1 < List.length l → holeRow l i (Value.slice (A, c).fst (List.length (List.getD l i default).Boxes) (A, c).snd) i_1 = holeRow l i (Value.slice A (List.length (List.getD l i default).Boxes) c) i_1, List.length (List.getD l i default).Boxes = List.length (List.getD l i default).Boxes ∧ ∀ (i_1 : Nat), i_1 < List.length (List.getD l i default).Boxes → (fun k => [SV.int IntKind.i64 (List.getD (List.getD l i default).Boxes k (0 : Int))]) i_1 = (fun k => [SV.int IntKind.i64 (List.getD (List.getD l i default).Boxes k (0 : Int))]) i_1, Value.slice (A, c).fst (List.length (List.getD l i default).Boxes) (A, c).snd = ((1 : Nat), Value.slice A (List.length (List.getD l i default).Boxes) c).snd] (by kernel_rfl) ⟨⟨rfl, fun _ _ => rfl⟩, ⟨rfl, fun _ _ => rfl⟩, rfl, trivial⟩
end Go.Sx.T
