/- Contracts of functions of the program, each proved by running its code symbolically (HJ). -/
import Derived.Test.YtgnffeajpmniiaaHI
namespace Go.Sx.T
open Go Go.Proofs Go.Sx
set_option maxRecDepth 100000
set_option maxHeartbeats 4000000
set_option linter.unusedVariables false
set_option linter.unusedSimpArgs false
def usedB : List Std → List Int
  | [] => []
  | x :: r => x.Boxes ++ usedB r
theorem usedB_append : ∀ l r : List Std, usedB (l ++ r) = usedB l ++ usedB r
  | [], r => rfl
  | b :: l, r => by simp [usedB, usedB_append l r]
theorem usedB_take (l : List Std) (k : Nat) (h : k < l.length) : usedB (l.take (k + 1)) = usedB (l.take k) ++ (l.getD k default).Boxes := by
  rw [take_snoc l default k h, usedB_append]; simp [usedB]
theorem mem_usedB (u : Int) : ∀ l : List Std, u ∈ usedB l ↔ ∃ j, j < l.length ∧ u ∈ (l.getD j default).Boxes
  | [] => by simp [usedB]
  | b :: r => by
    rw [usedB, List.mem_append, mem_usedB u r]
    constructor
    · rintro (h | ⟨j, hj, h⟩)
      · exact ⟨0, by simp, by simpa using h⟩
      · exact ⟨j + 1, by simp; omega, by simpa using h⟩
    · rintro ⟨j, hj, h⟩
      cases j with
      | zero => exact .inl (by simpa using h)
      | succ j => exact .inr ⟨j, by simpa using hj, by simpa using h⟩
def badBx (b : List Box) (us : List Int) (own : Int) (x : List Int) (j : Nat) : Int :=
  if isK b Box.ID (x.getD j 0) = false then 7 else if decide (x.getD j 0 ∈ us ++ x.take j) = true then 6 else if (atK b Box.ID (x.getD j 0)).Climate ≠ own then 10 else 0
def badBs (b : List Box) (us : List Int) (own : Int) (x : List Int) : Int := errFrom (badBx b us own x) x.length 0
def badSt (l : List Shf) (b : List Box) (s : List Std) (i : Nat) : Int :=
  if isK l Shf.ID (s.getD i default).Shelf = false then 7 else if (decide (0 < i) && decide ((s.getD i default).Shelf ≤ (s.getD (i - 1) default).Shelf)) = true then 5
  else if (s.getD i default).Boxes.length = 0 then 9
  else if badBs b (usedB (s.take i)) (atK l Shf.ID (s.getD i default).Shelf).Climate (s.getD i default).Boxes ≠ 0 then badBs b (usedB (s.take i)) (atK l Shf.ID (s.getD i default).Shelf).Climate (s.getD i default).Boxes
  else if (atK l Shf.ID (s.getD i default).Shelf).Length < widthI b (s.getD i default).Boxes then 12 else 0
def checkT (l : List Shf) (b : List Box) (s : List Std) : Int := errFrom (badSt l b s) s.length 0
theorem s62 (l : List Shf) (b : List Box) (s : List Std) (hal : Asc l Shf.ID) (hab : Asc b Box.ID) (hw : wOK b) (hl : l.length ≤ 100000) (hb : b.length ≤ 100000) (hs : s.length ≤ 100000) (hx : ∀ y ∈ s, y.Boxes.length ≤ 100000) :
    Spec Try.prog 62 [store l b s] (.int .i64 (checkT l b s)) := by
  refine spec_of_good mixed Try.func62 F62_ok (by kernel_rfl) ?_
  refine good_run 22 (obs := []) (by kernel_rfl) trivial ?_
  refine good_loopJ (fun k : Nat => ⟨[(16, .sv (.int .i64 (k))), (15, LV.sv (SV.int IntKind.i64 (↑(List.length s) : Int))), (14, LV.sv (SV.lst (2 : Nat) (List.length s) fun i => Std.cells (List.getD s i default))), (3, LV.own (1 : Nat)), (1, LV.ptr (0 : Nat) (0 : Nat))], [Blk.cells (73 : Nat) true [SV.lst (4 : Nat) (List.length l) fun i => Shf.cells (List.getD l i default), SV.lst (5 : Nat) (List.length b) fun i => Box.cells (List.getD b i default), SV.lst (2 : Nat) (List.length s) fun i => Std.cells (List.getD s i default)], .map (Value.bool false) (usedB (s.take k)) fun x => .bool (decide (x ∈ usedB (s.take k)))]⟩) (fun k => k ≤ s.length ∧ errFrom (badSt l b s) (s.length - k) k = checkT l b s) (fun k => s.length - k) (0) [List.length l = List.length l ∧ ∀ (i : Nat), i < List.length l → (fun i => Shf.cells (List.getD l i default)) i = (fun i => Shf.cells (List.getD l i default)) i, List.length b = List.length b ∧ ∀ (i : Nat), i < List.length b → (fun i => Box.cells (List.getD b i default)) i = (fun i => Box.cells (List.getD b i default)) i, List.length s = List.length s ∧ ∀ (i : Nat), i < List.length s → (fun i => Std.cells (List.getD s i default)) i = (fun i => Std.cells (List.getD s i default)) i, Value.bool false = Value.bool false, ([] : List Int) = [] ∧ ∀ (k : Int), (fun x => valSV (Value.bool false)) k = (fun x => SV.bool (decide (x ∈ usedB (List.take (0 : Nat) s)))) k, (0 : Int) = (0 : Int), (↑(List.length s) : Int) = (↑(List.length s) : Int), List.length s = List.length s ∧ ∀ (i : Nat), i < List.length s → (fun i => Std.cells (List.getD s i default)) i = (fun i => Std.cells (List.getD s i default)) i] (by kernel_rfl) (by kernel_rfl) ⟨⟨rfl, fun _ _ => rfl⟩, ⟨rfl, fun _ _ => rfl⟩, ⟨rfl, fun _ _ => rfl⟩, rfl, ?_, rfl, rfl, ⟨rfl, fun _ _ => rfl⟩, trivial⟩ ⟨by omega, rfl⟩ ?_
  · exact ⟨rfl, fun k => by simp [usedB, valSV]⟩
  intro k hk
  refine good_run 6 (obs := []) (by kernel_rfl) trivial ?_
  refine good_cond (decide ((↑k : Int) < (↑(List.length s) : Int))) (by kernel_rfl) (fun hc1 => ?_) (fun hc1 => ?_)
  · have hlt : k < s.length := by simp only [decide_eq_true_eq] at hc1; omega
    have hst := errFrom_step (badSt l b s) s.length k hlt
    rw [hk.2] at hst
    have hxk := hx _ (getD_mem s default k hlt)
    have hbb : badSt l b s k = if isK l Shf.ID (s.getD k default).Shelf = false then 7 else if (decide (0 < k) && decide ((s.getD k default).Shelf ≤ (s.getD (k - 1) default).Shelf)) = true then 5
      else if (s.getD k default).Boxes.length = 0 then 9
      else if badBs b (usedB (s.take k)) (atK l Shf.ID (s.getD k default).Shelf).Climate (s.getD k default).Boxes ≠ 0 then badBs b (usedB (s.take k)) (atK l Shf.ID (s.getD k default).Shelf).Climate (s.getD k default).Boxes
      else if (atK l Shf.ID (s.getD k default).Shelf).Length < widthI b (s.getD k default).Boxes then 12 else 0 := rfl
    refine good_run 18 (obs := [(2 : Nat) = (2 : Nat) ∧ (0 : Int) ≤ (↑k : Int) ∧ (↑k : Int) < (↑(List.length s) : Int), (0 : Nat) + (2 : Nat) ≤ (2 : Nat), (2 : Nat) = (2 : Nat) ∧ (0 : Nat) + (2 : Nat) ≤ (2 : Nat), (0 : Nat) + (3 : Nat) ≤ (3 : Nat)]) (by kernel_rfl) (by (first | omega | assumption | exact ⟨rfl, trivial⟩ | simp only [AllP, inK_iff, roomOK_iff, decide_eq_true_eq, Bool.and_eq_true, Bool.or_eq_true, Bool.not_eq_true', decide_eq_false_iff_not, and_true, true_and]; (first | omega | (and_intros <;> intros <;> (try and_intros) <;> first | omega | assumption | exact trivial)))) ?_
    refine good_call (c := True) (by kernel_rfl) (fun _ => SVles.refl _) (fun _ => s44 (l) (b) (s) ((List.getD s k default).Shelf) (by (first | omega | assumption | exact ⟨rfl, trivial⟩ | simp only [AllP, inK_iff, roomOK_iff, decide_eq_true_eq, Bool.and_eq_true, Bool.or_eq_true, Bool.not_eq_true', decide_eq_false_iff_not, and_true, true_and]; (first | omega | (and_intros <;> intros <;> (try and_intros) <;> first | omega | assumption | exact trivial)))) (by (first | omega | assumption | exact ⟨rfl, trivial⟩ | simp only [AllP, inK_iff, roomOK_iff, decide_eq_true_eq, Bool.and_eq_true, Bool.or_eq_true, Bool.not_eq_true', decide_eq_false_iff_not, and_true, true_and]; (first | omega | (and_intros <;> intros <;> (try and_intros) <;> first | omega | assumption | exact trivial))))) (by kernel_rfl) ?_
    refine good_run 17 (obs := [(4 : Nat) = (4 : Nat) ∧ (0 : Nat) + (4 : Nat) ≤ (4 : Nat)]) (by kernel_rfl) (by (first | omega | assumption | exact ⟨rfl, trivial⟩ | simp only [AllP, inK_iff, roomOK_iff, decide_eq_true_eq, Bool.and_eq_true, Bool.or_eq_true, Bool.not_eq_true', decide_eq_false_iff_not, and_true, true_and]; (first | omega | (and_intros <;> intros <;> (try and_intros) <;> first | omega | assumption | exact trivial)))) ?_
    refine good_cond (!isK l Shf.ID (List.getD s k default).Shelf) (by kernel_rfl) (fun hc2 => ?_) (fun hc2 => ?_)
    · simp only [Bool.not_eq_true'] at hc2
      rw [if_pos hc2] at hbb
      refine good_run 10 (obs := []) (by kernel_rfl) trivial ?_
      refine good_leaveJ (by kernel_rfl) ?_
      refine good_run 2 (obs := []) (by kernel_rfl) trivial ?_
      refine good_fin [(7 : Int) = checkT l b s] (by kernel_rfl) ⟨(by omega), trivial⟩
      all_goals (rw [hst, hbb]; rfl)
    · simp only [Bool.not_eq_false'] at hc2
      have e1 : ((k : Int) - 1).toNat = k - 1 := by omega
      have e2 : decide ((0 : Int) < (k : Int)) = decide (0 < k) := decide_eq_decide.2 (by omega)
      rw [if_neg (by rw [hc2]; decide)] at hbb
      refine good_run 19 (obs := [decide ((0 : Int) < (↑k : Int)) = true ∧ True → InK IntKind.i64 ((↑k : Int) - (1 : Int)), decide ((0 : Int) < (↑k : Int)) = true ∧ True → (2 : Nat) = (2 : Nat) ∧ (0 : Int) ≤ (↑k : Int) - (1 : Int) ∧ (↑k : Int) - (1 : Int) < (↑(List.length s) : Int)]) (by kernel_rfl) (by (first | omega | assumption | exact ⟨rfl, trivial⟩ | simp only [AllP, inK_iff, roomOK_iff, decide_eq_true_eq, Bool.and_eq_true, Bool.or_eq_true, Bool.not_eq_true', decide_eq_false_iff_not, and_true, true_and]; (first | omega | (and_intros <;> intros <;> (try and_intros) <;> first | omega | assumption | exact trivial)))) ?_
      refine good_cond (decide ((0 : Int) < (↑k : Int)) && decide ((List.getD s k default).Shelf ≤ (List.getD s (Int.toNat ((↑k : Int) - (1 : Int))) default).Shelf)) (by kernel_rfl) (fun hc3 => ?_) (fun hc3 => ?_)
      · rw [e1, e2] at hc3
        rw [if_pos hc3] at hbb
        refine good_run 10 (obs := []) (by kernel_rfl) trivial ?_
        refine good_leaveJ (by kernel_rfl) ?_
        refine good_run 2 (obs := []) (by kernel_rfl) trivial ?_
        refine good_fin [(5 : Int) = checkT l b s] (by kernel_rfl) ⟨(by omega), trivial⟩
        all_goals (rw [hst, hbb]; rfl)
      · rw [e1, e2] at hc3
        rw [if_neg (by rw [hc3]; decide)] at hbb
        refine good_run 9 (obs := []) (by kernel_rfl) trivial ?_
        refine good_cond (decide ((↑(List.length (List.getD s k default).Boxes) : Int) = (0 : Int))) (by kernel_rfl) (fun hc4 => ?_) (fun hc4 => ?_)
        · simp only [decide_eq_true_eq] at hc4
          rw [if_pos (by omega)] at hbb
          refine good_run 10 (obs := []) (by kernel_rfl) trivial ?_
          refine good_leaveJ (by kernel_rfl) ?_
          refine good_run 2 (obs := []) (by kernel_rfl) trivial ?_
          refine good_fin [(9 : Int) = checkT l b s] (by kernel_rfl) ⟨(by omega), trivial⟩
          all_goals (rw [hst, hbb]; rfl)
        · simp only [decide_eq_false_iff_not] at hc4
          rw [if_neg (by omega)] at hbb
          refine good_run 12 (obs := []) (by kernel_rfl) trivial ?_
          refine good_loopJ (fun j : Nat => ⟨[(54, .sv (.int .i64 (j))), (53, LV.sv (SV.int IntKind.i64 (↑(List.length (List.getD s k default).Boxes) : Int))), (52, LV.sv (SV.lst (1 : Nat) (List.length (List.getD s k default).Boxes) fun i => [SV.int IntKind.i64 (List.getD (List.getD s k default).Boxes i (0 : Int))])), (6, LV.ptr (3 : Nat) (0 : Nat)), (5, LV.ptr (2 : Nat) (0 : Nat)), (16, LV.sv (SV.int IntKind.i64 (↑k : Int))), (15, LV.sv (SV.int IntKind.i64 (↑(List.length s) : Int))), (14, LV.sv (SV.lst (2 : Nat) (List.length s) fun i => Std.cells (List.getD s i default))), (3, LV.own (1 : Nat)), (1, LV.ptr (0 : Nat) (0 : Nat))], [Blk.cells (73 : Nat) true [SV.lst (4 : Nat) (List.length l) fun i => Shf.cells (List.getD l i default), SV.lst (5 : Nat) (List.length b) fun i => Box.cells (List.getD b i default), SV.lst (2 : Nat) (List.length s) fun i => Std.cells (List.getD s i default)], .map (Value.bool false) (usedB (s.take k) ++ (s.getD k default).Boxes.take j) (fun x => .bool (decide (x ∈ usedB (s.take k) ++ (s.getD k default).Boxes.take j))), Blk.cells (47 : Nat) true [SV.int IntKind.i64 (List.getD s k default).Shelf, SV.lst (1 : Nat) (List.length (List.getD s k default).Boxes) fun i => [SV.int IntKind.i64 (List.getD (List.getD s k default).Boxes i (0 : Int))]], Blk.cells (32 : Nat) true [SV.int IntKind.i64 (atK l Shf.ID (List.getD s k default).Shelf).ID, SV.int IntKind.i64 (atK l Shf.ID (List.getD s k default).Shelf).Repository, SV.int IntKind.i64 (atK l Shf.ID (List.getD s k default).Shelf).Length, SV.int IntKind.i64 (atK l Shf.ID (List.getD s k default).Shelf).Climate]]⟩) (fun j => j ≤ (s.getD k default).Boxes.length ∧ errFrom (badBx b (usedB (s.take k)) (atK l Shf.ID (s.getD k default).Shelf).Climate (s.getD k default).Boxes) ((s.getD k default).Boxes.length - j) j = badBs b (usedB (s.take k)) (atK l Shf.ID (s.getD k default).Shelf).Climate (s.getD k default).Boxes) (fun j => (s.getD k default).Boxes.length - j) (0) [List.length l = List.length l ∧ ∀ (i : Nat), i < List.length l → (fun i => Shf.cells (List.getD l i default)) i = (fun i => Shf.cells (List.getD l i default)) i, List.length b = List.length b ∧ ∀ (i : Nat), i < List.length b → (fun i => Box.cells (List.getD b i default)) i = (fun i => Box.cells (List.getD b i default)) i, List.length s = List.length s ∧ ∀ (i : Nat), i < List.length s → (fun i => Std.cells (List.getD s i default)) i = (fun i => Std.cells (List.getD s i default)) i, Value.bool false = Value.bool false, usedB (List.take k s) = usedB (List.take k s) ++ List.take (0 : Nat) (List.getD s k default).Boxes ∧ ∀ (k_1 : Int), (fun x => SV.bool (decide (x ∈ usedB (List.take k s)))) k_1 = (fun x => SV.bool (decide (x ∈ usedB (List.take k s) ++ List.take (0 : Nat) (List.getD s k default).Boxes))) k_1, (List.getD s k default).Shelf = (List.getD s k default).Shelf, List.length (List.getD s k default).Boxes = List.length (List.getD s k default).Boxes ∧ ∀ (i : Nat), i < List.length (List.getD s k default).Boxes → (fun i => [SV.int IntKind.i64 (List.getD (List.getD s k default).Boxes i (0 : Int))]) i = (fun i => [SV.int IntKind.i64 (List.getD (List.getD s k default).Boxes i (0 : Int))]) i, (atK l Shf.ID (List.getD s k default).Shelf).ID = (atK l Shf.ID (List.getD s k default).Shelf).ID, (atK l Shf.ID (List.getD s k default).Shelf).Repository = (atK l Shf.ID (List.getD s k default).Shelf).Repository, (atK l Shf.ID (List.getD s k default).Shelf).Length = (atK l Shf.ID (List.getD s k default).Shelf).Length, (atK l Shf.ID (List.getD s k default).Shelf).Climate = (atK l Shf.ID (List.getD s k default).Shelf).Climate, (0 : Int) = (0 : Int), (↑(List.length (List.getD s k default).Boxes) : Int) = (↑(List.length (List.getD s k default).Boxes) : Int), List.length (List.getD s k default).Boxes = List.length (List.getD s k default).Boxes ∧ ∀ (i : Nat), i < List.length (List.getD s k default).Boxes → (fun i => [SV.int IntKind.i64 (List.getD (List.getD s k default).Boxes i (0 : Int))]) i = (fun i => [SV.int IntKind.i64 (List.getD (List.getD s k default).Boxes i (0 : Int))]) i, (↑k : Int) = (↑k : Int), (↑(List.length s) : Int) = (↑(List.length s) : Int), List.length s = List.length s ∧ ∀ (i : Nat), i < List.length s → (fun i => Std.cells (List.getD s i default)) i = (fun i => Std.cells (List.getD s i default)) i] (by kernel_rfl) (by kernel_rfl) ⟨⟨rfl, fun _ _ => rfl⟩, ⟨rfl, fun _ _ => rfl⟩, ⟨rfl, fun _ _ => rfl⟩, rfl, ?_, rfl, ⟨rfl, fun _ _ => rfl⟩, rfl, rfl, rfl, rfl, rfl, rfl, ⟨rfl, fun _ _ => rfl⟩, rfl, rfl, ⟨rfl, fun _ _ => rfl⟩, trivial⟩ ⟨by omega, rfl⟩ ?_
          · exact ⟨by simp, fun x => by simp⟩
          intro j hj
          refine good_run 6 (obs := []) (by kernel_rfl) trivial ?_
          refine good_cond (decide ((↑j : Int) < (↑(List.length (List.getD s k default).Boxes) : Int))) (by kernel_rfl) (fun hc5 => ?_) (fun hc5 => ?_)
          · have hjt : j < (s.getD k default).Boxes.length := by simp only [decide_eq_true_eq] at hc5; omega
            have hsj := errFrom_step (badBx b (usedB (s.take k)) (atK l Shf.ID (s.getD k default).Shelf).Climate (s.getD k default).Boxes) (s.getD k default).Boxes.length j hjt
            rw [hj.2] at hsj
            have hbj : badBx b (usedB (s.take k)) (atK l Shf.ID (s.getD k default).Shelf).Climate (s.getD k default).Boxes j = if isK b Box.ID ((s.getD k default).Boxes.getD j 0) = false then 7 else if decide ((s.getD k default).Boxes.getD j 0 ∈ usedB (s.take k) ++ (s.getD k default).Boxes.take j) = true then 6 else if (atK b Box.ID ((s.getD k default).Boxes.getD j 0)).Climate ≠ (atK l Shf.ID (s.getD k default).Shelf).Climate then 10 else 0 := rfl
            refine good_run 14 (obs := [(1 : Nat) = (1 : Nat) ∧ (0 : Int) ≤ (↑j : Int) ∧ (↑j : Int) < (↑(List.length (List.getD s k default).Boxes) : Int), (0 : Nat) + (3 : Nat) ≤ (3 : Nat)]) (by kernel_rfl) (by (first | omega | assumption | exact ⟨rfl, trivial⟩ | simp only [AllP, inK_iff, roomOK_iff, decide_eq_true_eq, Bool.and_eq_true, Bool.or_eq_true, Bool.not_eq_true', decide_eq_false_iff_not, and_true, true_and]; (first | omega | (and_intros <;> intros <;> (try and_intros) <;> first | omega | assumption | exact trivial)))) ?_
            refine good_call (c := True) (by kernel_rfl) (fun _ => SVles.refl _) (fun _ => s52 (l) (b) (s) (List.getD (List.getD s k default).Boxes j (0 : Int)) (by (first | omega | assumption | exact ⟨rfl, trivial⟩ | simp only [AllP, inK_iff, roomOK_iff, decide_eq_true_eq, Bool.and_eq_true, Bool.or_eq_true, Bool.not_eq_true', decide_eq_false_iff_not, and_true, true_and]; (first | omega | (and_intros <;> intros <;> (try and_intros) <;> first | omega | assumption | exact trivial)))) (by (first | omega | assumption | exact ⟨rfl, trivial⟩ | simp only [AllP, inK_iff, roomOK_iff, decide_eq_true_eq, Bool.and_eq_true, Bool.or_eq_true, Bool.not_eq_true', decide_eq_false_iff_not, and_true, true_and]; (first | omega | (and_intros <;> intros <;> (try and_intros) <;> first | omega | assumption | exact trivial))))) (by kernel_rfl) ?_
            refine good_run 17 (obs := [(5 : Nat) = (5 : Nat) ∧ (0 : Nat) + (5 : Nat) ≤ (5 : Nat)]) (by kernel_rfl) (by (first | omega | assumption | exact ⟨rfl, trivial⟩ | simp only [AllP, inK_iff, roomOK_iff, decide_eq_true_eq, Bool.and_eq_true, Bool.or_eq_true, Bool.not_eq_true', decide_eq_false_iff_not, and_true, true_and]; (first | omega | (and_intros <;> intros <;> (try and_intros) <;> first | omega | assumption | exact trivial)))) ?_
            refine good_cond (!isK b Box.ID (List.getD (List.getD s k default).Boxes j (0 : Int))) (by kernel_rfl) (fun hc6 => ?_) (fun hc6 => ?_)
            · simp only [Bool.not_eq_true'] at hc6
              rw [if_pos hc6] at hbj
              rw [hbj, if_pos (by decide)] at hsj
              rw [hsj, if_pos (by decide)] at hbb
              refine good_run 10 (obs := []) (by kernel_rfl) trivial ?_
              refine good_leaveJ (by kernel_rfl) ?_
              refine good_run 4 (obs := []) (by kernel_rfl) trivial ?_
              refine good_leaveJ (by kernel_rfl) ?_
              refine good_run 2 (obs := []) (by kernel_rfl) trivial ?_
              refine good_fin [(7 : Int) = checkT l b s] (by kernel_rfl) ⟨(by omega), trivial⟩
              all_goals (rw [hst, hbb]; rfl)
            · simp only [Bool.not_eq_false'] at hc6
              rw [if_neg (by rw [hc6]; decide)] at hbj
              refine good_run 8 (obs := [Value.bool false = Value.bool false]) (by kernel_rfl) (by (first | omega | assumption | exact ⟨rfl, trivial⟩ | simp only [AllP, inK_iff, roomOK_iff, decide_eq_true_eq, Bool.and_eq_true, Bool.or_eq_true, Bool.not_eq_true', decide_eq_false_iff_not, and_true, true_and]; (first | omega | (and_intros <;> intros <;> (try and_intros) <;> first | omega | assumption | exact trivial)))) ?_
              refine good_cond (decide (List.getD (List.getD s k default).Boxes j (0 : Int) ∈ usedB (List.take k s) ++ List.take j (List.getD s k default).Boxes)) (by kernel_rfl) (fun hc7 => ?_) (fun hc7 => ?_)
              · rw [if_pos hc7] at hbj
                rw [hbj, if_pos (by decide)] at hsj
                rw [hsj, if_pos (by decide)] at hbb
                refine good_run 10 (obs := []) (by kernel_rfl) trivial ?_
                refine good_leaveJ (by kernel_rfl) ?_
                refine good_run 4 (obs := []) (by kernel_rfl) trivial ?_
                refine good_leaveJ (by kernel_rfl) ?_
                refine good_run 2 (obs := []) (by kernel_rfl) trivial ?_
                refine good_fin [(6 : Int) = checkT l b s] (by kernel_rfl) ⟨(by omega), trivial⟩
                all_goals (rw [hst, hbb]; rfl)
              · rw [if_neg (by rw [hc7]; decide)] at hbj
                have hnin := of_decide_eq_false hc7
                have hsp := seen_next (usedB (s.take k)) (s.getD k default).Boxes j hjt hnin
                refine good_run 10 (obs := []) (by kernel_rfl) trivial ?_
                refine good_cond (!decide ((atK b Box.ID (List.getD (List.getD s k default).Boxes j (0 : Int))).Climate = (atK l Shf.ID (List.getD s k default).Shelf).Climate)) (by kernel_rfl) (fun hc8 => ?_) (fun hc8 => ?_)
                · simp only [Bool.not_eq_true', decide_eq_false_iff_not] at hc8
                  rw [if_pos hc8] at hbj
                  rw [hbj, if_pos (by decide)] at hsj
                  rw [hsj, if_pos (by decide)] at hbb
                  refine good_run 10 (obs := []) (by kernel_rfl) trivial ?_
                  refine good_leaveJ (by kernel_rfl) ?_
                  refine good_run 4 (obs := []) (by kernel_rfl) trivial ?_
                  refine good_leaveJ (by kernel_rfl) ?_
                  refine good_run 2 (obs := []) (by kernel_rfl) trivial ?_
                  refine good_fin [(10 : Int) = checkT l b s] (by kernel_rfl) ⟨(by omega), trivial⟩
                  all_goals (rw [hst, hbb]; rfl)
                · simp only [Bool.not_eq_false', decide_eq_true_eq] at hc8
                  rw [if_neg (fun h => h hc8)] at hbj
                  rw [hbj, if_neg (fun h => h rfl)] at hsj
                  refine good_run 14 (obs := [InK IntKind.i64 ((↑j : Int) + (1 : Int))]) (by kernel_rfl) (by (first | omega | assumption | exact ⟨rfl, trivial⟩ | simp only [AllP, inK_iff, roomOK_iff, decide_eq_true_eq, Bool.and_eq_true, Bool.or_eq_true, Bool.not_eq_true', decide_eq_false_iff_not, and_true, true_and]; (first | omega | (and_intros <;> intros <;> (try and_intros) <;> first | omega | assumption | exact trivial)))) ?_
                  refine good_backJ (j + 1) [List.length l = List.length l ∧ ∀ (i : Nat), i < List.length l → (fun i => Shf.cells (List.getD l i default)) i = (fun i => Shf.cells (List.getD l i default)) i, List.length b = List.length b ∧ ∀ (i : Nat), i < List.length b → (fun i => Box.cells (List.getD b i default)) i = (fun i => Box.cells (List.getD b i default)) i, List.length s = List.length s ∧ ∀ (i : Nat), i < List.length s → (fun i => Std.cells (List.getD s i default)) i = (fun i => Std.cells (List.getD s i default)) i, Value.bool false = Value.bool false, putKey (usedB (List.take k s) ++ List.take j (List.getD s k default).Boxes) (List.getD (List.getD s k default).Boxes j (0 : Int)) = usedB (List.take k s) ++ List.take (j + (1 : Nat)) (List.getD s k default).Boxes ∧ ∀ (k_1 : Int), putGet (List.getD (List.getD s k default).Boxes j (0 : Int)) (SV.bool true) (fun x => SV.bool (decide (x ∈ usedB (List.take k s) ++ List.take j (List.getD s k default).Boxes))) k_1 = (fun x => SV.bool (decide (x ∈ usedB (List.take k s) ++ List.take (j + (1 : Nat)) (List.getD s k default).Boxes))) k_1, (List.getD s k default).Shelf = (List.getD s k default).Shelf, List.length (List.getD s k default).Boxes = List.length (List.getD s k default).Boxes ∧ ∀ (i : Nat), i < List.length (List.getD s k default).Boxes → (fun i => [SV.int IntKind.i64 (List.getD (List.getD s k default).Boxes i (0 : Int))]) i = (fun i => [SV.int IntKind.i64 (List.getD (List.getD s k default).Boxes i (0 : Int))]) i, (atK l Shf.ID (List.getD s k default).Shelf).ID = (atK l Shf.ID (List.getD s k default).Shelf).ID, (atK l Shf.ID (List.getD s k default).Shelf).Repository = (atK l Shf.ID (List.getD s k default).Shelf).Repository, (atK l Shf.ID (List.getD s k default).Shelf).Length = (atK l Shf.ID (List.getD s k default).Shelf).Length, (atK l Shf.ID (List.getD s k default).Shelf).Climate = (atK l Shf.ID (List.getD s k default).Shelf).Climate, (↑j : Int) + (1 : Int) = (↑(j + (1 : Nat)) : Int), (↑(List.length (List.getD s k default).Boxes) : Int) = (↑(List.length (List.getD s k default).Boxes) : Int), List.length (List.getD s k default).Boxes = List.length (List.getD s k default).Boxes ∧ ∀ (i : Nat), i < List.length (List.getD s k default).Boxes → (fun i => [SV.int IntKind.i64 (List.getD (List.getD s k default).Boxes i (0 : Int))]) i = (fun i => [SV.int IntKind.i64 (List.getD (List.getD s k default).Boxes i (0 : Int))]) i, (↑k : Int) = (↑k : Int), (↑(List.length s) : Int) = (↑(List.length s) : Int), List.length s = List.length s ∧ ∀ (i : Nat), i < List.length s → (fun i => Std.cells (List.getD s i default)) i = (fun i => Std.cells (List.getD s i default)) i] (by kernel_rfl) (by kernel_rfl) ⟨⟨rfl, fun _ _ => rfl⟩, ⟨rfl, fun _ _ => rfl⟩, ⟨rfl, fun _ _ => rfl⟩, rfl, ?_, rfl, ⟨rfl, fun _ _ => rfl⟩, rfl, rfl, rfl, rfl, (by omega), rfl, ⟨rfl, fun _ _ => rfl⟩, rfl, rfl, ⟨rfl, fun _ _ => rfl⟩, trivial⟩ (by omega) (by show _ < _; omega)
                  exact hsp
          · have hjt : j = (s.getD k default).Boxes.length := by simp only [decide_eq_false_iff_not] at hc5; have := hj.1; omega
            have hz := hj.2
            rw [hjt, errFrom_end] at hz
            rw [← hz, if_neg (fun h => h rfl)] at hbb
            refine good_run 2 (obs := []) (by kernel_rfl) trivial ?_
            refine good_leaveJ (by kernel_rfl) ?_
            refine good_run 5 (obs := [True → (0 : Nat) + (3 : Nat) ≤ (3 : Nat), True → (0 : Nat) + (2 : Nat) ≤ (2 : Nat)]) (by kernel_rfl) (by (first | omega | assumption | exact ⟨rfl, trivial⟩ | simp only [AllP, inK_iff, roomOK_iff, decide_eq_true_eq, Bool.and_eq_true, Bool.or_eq_true, Bool.not_eq_true', decide_eq_false_iff_not, and_true, true_and]; (first | omega | (and_intros <;> intros <;> (try and_intros) <;> first | omega | assumption | exact trivial)))) ?_
            refine good_call (c := True) (by kernel_rfl) (fun _ => SVles.refl _) (fun _ => s69 (l) (b) (s) (List.getD s k default) (by (first | omega | assumption | exact ⟨rfl, trivial⟩ | simp only [AllP, inK_iff, roomOK_iff, decide_eq_true_eq, Bool.and_eq_true, Bool.or_eq_true, Bool.not_eq_true', decide_eq_false_iff_not, and_true, true_and]; (first | omega | (and_intros <;> intros <;> (try and_intros) <;> first | omega | assumption | exact trivial)))) (by (first | omega | assumption | exact ⟨rfl, trivial⟩ | simp only [AllP, inK_iff, roomOK_iff, decide_eq_true_eq, Bool.and_eq_true, Bool.or_eq_true, Bool.not_eq_true', decide_eq_false_iff_not, and_true, true_and]; (first | omega | (and_intros <;> intros <;> (try and_intros) <;> first | omega | assumption | exact trivial)))) (by (first | omega | assumption | exact ⟨rfl, trivial⟩ | simp only [AllP, inK_iff, roomOK_iff, decide_eq_true_eq, Bool.and_eq_true, Bool.or_eq_true, Bool.not_eq_true', decide_eq_false_iff_not, and_true, true_and]; (first | omega | (and_intros <;> intros <;> (try and_intros) <;> first | omega | assumption | exact trivial)))) (by (first | omega | assumption | exact ⟨rfl, trivial⟩ | simp only [AllP, inK_iff, roomOK_iff, decide_eq_true_eq, Bool.and_eq_true, Bool.or_eq_true, Bool.not_eq_true', decide_eq_false_iff_not, and_true, true_and]; (first | omega | (and_intros <;> intros <;> (try and_intros) <;> first | omega | assumption | exact trivial))))) (by kernel_rfl) ?_
            refine good_run 5 (obs := []) (by kernel_rfl) trivial ?_
            refine good_cond (decide ((atK l Shf.ID (List.getD s k default).Shelf).Length < widthI b (List.getD s k default).Boxes)) (by kernel_rfl) (fun hc6 => ?_) (fun hc6 => ?_)
            · simp only [decide_eq_true_eq] at hc6
              rw [if_pos (by omega)] at hbb
              refine good_run 8 (obs := []) (by kernel_rfl) trivial ?_
              refine good_leaveJ (by kernel_rfl) ?_
              refine good_run 2 (obs := []) (by kernel_rfl) trivial ?_
              refine good_fin [(12 : Int) = checkT l b s] (by kernel_rfl) ⟨(by omega), trivial⟩
              all_goals (rw [hst, hbb]; rfl)
            · simp only [decide_eq_false_iff_not] at hc6
              rw [if_neg (by omega)] at hbb
              rw [hbb, if_neg (fun h => h rfl)] at hst
              refine good_run 7 (obs := [InK IntKind.i64 ((↑k : Int) + (1 : Int))]) (by kernel_rfl) (by (first | omega | assumption | exact ⟨rfl, trivial⟩ | simp only [AllP, inK_iff, roomOK_iff, decide_eq_true_eq, Bool.and_eq_true, Bool.or_eq_true, Bool.not_eq_true', decide_eq_false_iff_not, and_true, true_and]; (first | omega | (and_intros <;> intros <;> (try and_intros) <;> first | omega | assumption | exact trivial)))) ?_
              refine good_backJ (k + 1) [List.length l = List.length l ∧ ∀ (i : Nat), i < List.length l → (fun i => Shf.cells (List.getD l i default)) i = (fun i => Shf.cells (List.getD l i default)) i, List.length b = List.length b ∧ ∀ (i : Nat), i < List.length b → (fun i => Box.cells (List.getD b i default)) i = (fun i => Box.cells (List.getD b i default)) i, List.length s = List.length s ∧ ∀ (i : Nat), i < List.length s → (fun i => Std.cells (List.getD s i default)) i = (fun i => Std.cells (List.getD s i default)) i, Value.bool false = Value.bool false, usedB (List.take k s) ++ List.take j (List.getD s k default).Boxes = usedB (List.take (k + (1 : Nat)) s) ∧ ∀ (k_1 : Int), (fun x => SV.bool (decide (x ∈ usedB (List.take k s) ++ List.take j (List.getD s k default).Boxes))) k_1 = (fun x => SV.bool (decide (x ∈ usedB (List.take (k + (1 : Nat)) s)))) k_1, (↑k : Int) + (1 : Int) = (↑(k + (1 : Nat)) : Int), (↑(List.length s) : Int) = (↑(List.length s) : Int), List.length s = List.length s ∧ ∀ (i : Nat), i < List.length s → (fun i => Std.cells (List.getD s i default)) i = (fun i => Std.cells (List.getD s i default)) i] (by kernel_rfl) (by kernel_rfl) ⟨⟨rfl, fun _ _ => rfl⟩, ⟨rfl, fun _ _ => rfl⟩, ⟨rfl, fun _ _ => rfl⟩, rfl, ?_, (by omega), rfl, ⟨rfl, fun _ _ => rfl⟩, trivial⟩ (by omega) (by show _ < _; omega)
              · have htk : (s.getD k default).Boxes.take j = (s.getD k default).Boxes := List.take_of_length_le (by omega)
                rw [htk, usedB_take s k hlt]
                exact ⟨rfl, fun _ => rfl⟩
  · have : k = s.length := by simp only [decide_eq_false_iff_not] at hc1; omega
    subst this
    refine good_run 2 (obs := []) (by kernel_rfl) trivial ?_
    refine good_leaveJ (by kernel_rfl) ?_
    refine good_run 7 (obs := []) (by kernel_rfl) trivial ?_
    refine good_fin [(0 : Int) = checkT l b s] (by kernel_rfl) ⟨?_, trivial⟩
    rw [← hk.2, errFrom_end]
end Go.Sx.T
