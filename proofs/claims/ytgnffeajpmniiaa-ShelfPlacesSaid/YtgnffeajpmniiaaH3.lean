/- Contracts of functions of the program, each proved by running its code symbolically (H3). -/
import Derived.Test.YtgnffeajpmniiaaH2
namespace Go.Sx.T
open Go Go.Proofs Go.Sx
set_option maxRecDepth 100000
set_option maxHeartbeats 4000000
set_option linter.unusedVariables false
set_option linter.unusedSimpArgs false
def neK (id : Int) (x : Int) : Bool := !decide (x = id)
def remF (id : Int) : List Std → List Std
  | [] => []
  | x :: r => if x.Boxes.filter (neK id) = [] then remF id r else ⟨x.Shelf, x.Boxes.filter (neK id)⟩ :: remF id r
theorem remF_append (id : Int) : ∀ x y : List Std, remF id (x ++ y) = remF id x ++ remF id y
  | [], y => rfl
  | a :: x, y => by
    simp only [List.cons_append, remF]
    split
    · exact remF_append id x y
    · rw [remF_append id x y]; rfl
theorem remF_len (id : Int) : ∀ x : List Std, (remF id x).length ≤ x.length
  | [] => Nat.le_refl _
  | a :: x => by
    have := remF_len id x
    simp only [remF]
    split
    · simp only [List.length_cons]; omega
    · simp only [List.length_cons]; omega
theorem remF_take (id : Int) (s : List Std) (k : Nat) (hk : k < s.length) : remF id (s.take (k + 1)) =
    if (s.getD k default).Boxes.filter (neK id) = [] then remF id (s.take k) else remF id (s.take k) ++ [⟨(s.getD k default).Shelf, (s.getD k default).Boxes.filter (neK id)⟩] := by
  rw [take_snoc s default k hk, remF_append]
  simp only [remF]
  split
  · simp
  · rfl
theorem filt_take (id : Int) (x : List Int) (k : Nat) (hk : k < x.length) : (x.take (k + 1)).filter (neK id) = if neK id (x.getD k 0) = true then (x.take k).filter (neK id) ++ [x.getD k 0] else (x.take k).filter (neK id) := by
  rw [take_snoc x 0 k hk, List.filter_append]
  by_cases h : neK id (x.getD k 0) = true
  · rw [if_pos h, List.filter_cons_of_pos h]; rfl
  · rw [if_neg h, List.filter_cons_of_neg h]; simp
def rowI (l : List Int) : Blk := .row 3 1 l.length true fun i => [.int .i64 (l.getD i 0)]
theorem s31a (l : List Shf) (b : List Box) (s : List Std) (id : Int) (hs : s.length ≤ 100) (hx : ∀ y ∈ s, y.Boxes.length ≤ 1000) (h0 : (findR l b s id).2.2 = 0) :
    Spec Try.prog 31 [shfs l, boxes b, stds s, .int .i64 id] (.tup [stds (remF id s), .int .i64 0]) := by
  have hs' : s.length ≤ 100000 := by omega
  have hx' : ∀ y ∈ s, y.Boxes.length ≤ 100000 := fun y hy => by have := hx y hy; omega
  refine spec_of_good mixed Try.func31 F31_ok (by kernel_rfl) ?_
  have s21a : Spec Try.prog 21 [shfs l, boxes b, stds s, .int .i64 id] (.tup [.int .i64 (findR l b s id).1, .int .i64 (findR l b s id).2.1, .int .i64 0]) := by
    have := s21 l b s id hs' hx'
    rwa [h0] at this
  refine good_run 13 (obs := []) (by kernel_rfl) trivial ?_
  refine good_call (c := True) (by kernel_rfl) (fun _ => SVles.refl _) (fun _ => s21a) (by kernel_rfl) ?_
  refine good_run 15 (obs := []) (by kernel_rfl) trivial ?_
  refine good_cond false (by kernel_rfl) (fun h => nomatch h) (fun _ => ?_)
  refine good_run 15 (obs := []) (by kernel_rfl) trivial ?_
  refine good_loopJ (fun p : Nat => ⟨[(33, .sv (.int .i64 (p))), (13, .own 0), (32, LV.sv (SV.int IntKind.i64 (↑(List.length s) : Int))), (31, LV.sv (SV.lst (2 : Nat) (List.length s) fun i => Std.cells (List.getD s i default))), (3, LV.sv (SV.int IntKind.i64 id))], [.row 47 2 (remF id (s.take p)).length true fun i => ((remF id (s.take p)).getD i default).cells]⟩) (fun p => p ≤ s.length) (fun p => s.length - p) (0) [(0 : Nat) = (0 : Nat), (0 : Int) = (0 : Int), (↑(List.length s) : Int) = (↑(List.length s) : Int), List.length s = List.length s ∧ ∀ (i : Nat), i < List.length s → (fun i => Std.cells (List.getD s i default)) i = (fun i => Std.cells (List.getD s i default)) i, id = id] (by kernel_rfl) (by kernel_rfl) ⟨rfl, rfl, rfl, ⟨rfl, fun _ _ => rfl⟩, rfl, trivial⟩ (by omega) ?_
  intro p hp
  have hrl := remF_len id (s.take p)
  rw [List.length_take] at hrl
  refine good_run 6 (obs := []) (by kernel_rfl) trivial ?_
  refine good_cond (decide ((↑p : Int) < (↑(List.length s) : Int))) (by kernel_rfl) (fun hc1 => ?_) (fun hc1 => ?_)
  · have hpl : p < s.length := by simp only [decide_eq_true_eq] at hc1; omega
    have hxp := hx _ (getD_mem s default p hpl)
    have hrt := remF_take id s p hpl
    refine good_run 26 (obs := [(2 : Nat) = (2 : Nat) ∧ (0 : Int) ≤ (↑p : Int) ∧ (↑p : Int) < (↑(List.length s) : Int), (0 : Nat) + (2 : Nat) ≤ (2 : Nat), (2 : Nat) = (2 : Nat) ∧ (0 : Nat) + (2 : Nat) ≤ (2 : Nat)]) (by kernel_rfl) (by (first | omega | assumption | exact ⟨rfl, trivial⟩ | simp only [AllP, inK_iff, roomOK_iff, decide_eq_true_eq, Bool.and_eq_true, Bool.or_eq_true, Bool.not_eq_true', decide_eq_false_iff_not, and_true, true_and]; (first | omega | (and_intros <;> intros <;> (try and_intros) <;> first | omega | assumption | exact trivial)))) ?_
    refine good_loopJ (fun k : Nat => ⟨[(40, .sv (.int .i64 (k))), (16, .own 2), (39, LV.sv (SV.int IntKind.i64 (↑(List.length (List.getD s p default).Boxes) : Int))), (38, LV.sv (SV.lst (1 : Nat) (List.length (List.getD s p default).Boxes) fun i => [SV.int IntKind.i64 (List.getD (List.getD s p default).Boxes i (0 : Int))])), (15, LV.ptr (1 : Nat) (0 : Nat)), (33, LV.sv (SV.int IntKind.i64 (↑p : Int))), (13, LV.own (0 : Nat)), (32, LV.sv (SV.int IntKind.i64 (↑(List.length s) : Int))), (31, LV.sv (SV.lst (2 : Nat) (List.length s) fun i => Std.cells (List.getD s i default))), (3, LV.sv (SV.int IntKind.i64 id))], [Blk.row (47 : Nat) (2 : Nat) (List.length (remF id (List.take p s))) true fun i => Std.cells (List.getD (remF id (List.take p s)) i default), Blk.cells (47 : Nat) true [SV.int IntKind.i64 (List.getD s p default).Shelf, SV.lst (1 : Nat) (List.length (List.getD s p default).Boxes) fun i => [SV.int IntKind.i64 (List.getD (List.getD s p default).Boxes i (0 : Int))]], rowI (((s.getD p default).Boxes.take k).filter (neK id))]⟩) (fun k => k ≤ (s.getD p default).Boxes.length) (fun k => (s.getD p default).Boxes.length - k) (0) [List.length (remF id (List.take p s)) = List.length (remF id (List.take p s)) ∧ ∀ (i : Nat), i < List.length (remF id (List.take p s)) → (fun i => Std.cells (List.getD (remF id (List.take p s)) i default)) i = (fun i => Std.cells (List.getD (remF id (List.take p s)) i default)) i, (List.getD s p default).Shelf = (List.getD s p default).Shelf, List.length (List.getD s p default).Boxes = List.length (List.getD s p default).Boxes ∧ ∀ (i : Nat), i < List.length (List.getD s p default).Boxes → (fun i => [SV.int IntKind.i64 (List.getD (List.getD s p default).Boxes i (0 : Int))]) i = (fun i => [SV.int IntKind.i64 (List.getD (List.getD s p default).Boxes i (0 : Int))]) i, (0 : Nat) = (0 : Nat), (0 : Int) = (0 : Int), (↑(List.length (List.getD s p default).Boxes) : Int) = (↑(List.length (List.getD s p default).Boxes) : Int), List.length (List.getD s p default).Boxes = List.length (List.getD s p default).Boxes ∧ ∀ (i : Nat), i < List.length (List.getD s p default).Boxes → (fun i => [SV.int IntKind.i64 (List.getD (List.getD s p default).Boxes i (0 : Int))]) i = (fun i => [SV.int IntKind.i64 (List.getD (List.getD s p default).Boxes i (0 : Int))]) i, (↑p : Int) = (↑p : Int), (↑(List.length s) : Int) = (↑(List.length s) : Int), List.length s = List.length s ∧ ∀ (i : Nat), i < List.length s → (fun i => Std.cells (List.getD s i default)) i = (fun i => Std.cells (List.getD s i default)) i, id = id] (by kernel_rfl) (by kernel_rfl) ⟨⟨rfl, fun _ _ => rfl⟩, rfl, ⟨rfl, fun _ _ => rfl⟩, rfl, rfl, rfl, ⟨rfl, fun _ _ => rfl⟩, rfl, rfl, ⟨rfl, fun _ _ => rfl⟩, rfl, trivial⟩ (by omega) ?_
    intro k hk
    have hfl : (((s.getD p default).Boxes.take k).filter (neK id)).length ≤ 1000 := by
      have h1 := List.length_filter_le (neK id) ((s.getD p default).Boxes.take k)
      have h2 := List.length_take_le' k (s.getD p default).Boxes
      omega
    refine good_run 6 (obs := []) (by kernel_rfl) trivial ?_
    refine good_cond (decide ((↑k : Int) < (↑(List.length (List.getD s p default).Boxes) : Int))) (by kernel_rfl) (fun hc2 => ?_) (fun hc2 => ?_)
    · have hkl : k < (s.getD p default).Boxes.length := by simp only [decide_eq_true_eq] at hc2; omega
      have hft := filt_take id (s.getD p default).Boxes k hkl
      refine good_run 17 (obs := [(1 : Nat) = (1 : Nat) ∧ (0 : Int) ≤ (↑k : Int) ∧ (↑k : Int) < (↑(List.length (List.getD s p default).Boxes) : Int)]) (by kernel_rfl) (by (first | omega | assumption | exact ⟨rfl, trivial⟩ | simp only [AllP, inK_iff, roomOK_iff, decide_eq_true_eq, Bool.and_eq_true, Bool.or_eq_true, Bool.not_eq_true', decide_eq_false_iff_not, and_true, true_and]; (first | omega | (and_intros <;> intros <;> (try and_intros) <;> first | omega | assumption | exact trivial)))) ?_
      refine good_cond (!decide (List.getD (List.getD s p default).Boxes k (0 : Int) = id)) (by kernel_rfl) (fun hc3 => ?_) (fun hc3 => ?_)
      · rw [if_pos (show neK id ((s.getD p default).Boxes.getD k 0) = true from hc3)] at hft
        refine good_run 14 (obs := [(3 : Nat) = (3 : Nat) ∧ (1 : Nat) = (1 : Nat) ∧ (1 : Nat) = (1 : Nat) ∧ roomOK (List.length (List.filter (neK id) (List.take k (List.getD s p default).Boxes)) + (1 : Nat)) (8 : Nat), InK IntKind.i64 ((↑k : Int) + (1 : Int))]) (by kernel_rfl) (by (first | omega | assumption | exact ⟨rfl, trivial⟩ | simp only [AllP, inK_iff, roomOK_iff, decide_eq_true_eq, Bool.and_eq_true, Bool.or_eq_true, Bool.not_eq_true', decide_eq_false_iff_not, and_true, true_and]; (first | omega | (and_intros <;> intros <;> (try and_intros) <;> first | omega | assumption | exact trivial)))) ?_
        refine good_backJ (k + 1) [List.length (remF id (List.take p s)) = List.length (remF id (List.take p s)) ∧ ∀ (i : Nat), i < List.length (remF id (List.take p s)) → (fun i => Std.cells (List.getD (remF id (List.take p s)) i default)) i = (fun i => Std.cells (List.getD (remF id (List.take p s)) i default)) i, (List.getD s p default).Shelf = (List.getD s p default).Shelf, List.length (List.getD s p default).Boxes = List.length (List.getD s p default).Boxes ∧ ∀ (i : Nat), i < List.length (List.getD s p default).Boxes → (fun i => [SV.int IntKind.i64 (List.getD (List.getD s p default).Boxes i (0 : Int))]) i = (fun i => [SV.int IntKind.i64 (List.getD (List.getD s p default).Boxes i (0 : Int))]) i, List.length (List.filter (neK id) (List.take k (List.getD s p default).Boxes)) + (1 : Nat) = List.length (List.filter (neK id) (List.take (k + (1 : Nat)) (List.getD s p default).Boxes)) ∧ ∀ (i : Nat), i < List.length (List.filter (neK id) (List.take k (List.getD s p default).Boxes)) + (1 : Nat) → joinGet (List.length (List.filter (neK id) (List.take k (List.getD s p default).Boxes))) (fun i => [SV.int IntKind.i64 (List.getD (List.filter (neK id) (List.take k (List.getD s p default).Boxes)) i (0 : Int))]) (cutRows (1 : Nat) [SV.int IntKind.i64 (List.getD (List.getD s p default).Boxes k (0 : Int))]) i = (fun i => [SV.int IntKind.i64 (List.getD (List.filter (neK id) (List.take (k + (1 : Nat)) (List.getD s p default).Boxes)) i (0 : Int))]) i, (↑k : Int) + (1 : Int) = (↑(k + (1 : Nat)) : Int), (↑(List.length (List.getD s p default).Boxes) : Int) = (↑(List.length (List.getD s p default).Boxes) : Int), List.length (List.getD s p default).Boxes = List.length (List.getD s p default).Boxes ∧ ∀ (i : Nat), i < List.length (List.getD s p default).Boxes → (fun i => [SV.int IntKind.i64 (List.getD (List.getD s p default).Boxes i (0 : Int))]) i = (fun i => [SV.int IntKind.i64 (List.getD (List.getD s p default).Boxes i (0 : Int))]) i, (↑p : Int) = (↑p : Int), (↑(List.length s) : Int) = (↑(List.length s) : Int), List.length s = List.length s ∧ ∀ (i : Nat), i < List.length s → (fun i => Std.cells (List.getD s i default)) i = (fun i => Std.cells (List.getD s i default)) i, id = id] (by kernel_rfl) (by kernel_rfl) ⟨⟨rfl, fun _ _ => rfl⟩, rfl, ⟨rfl, fun _ _ => rfl⟩, ?_, (by omega), rfl, ⟨rfl, fun _ _ => rfl⟩, rfl, rfl, ⟨rfl, fun _ _ => rfl⟩, rfl, trivial⟩ (by omega) (by show _ < _; omega)
        rw [hft]
        exact row_snoc' (fun x => [SV.int .i64 x]) 0 _ _ 1 rfl
      · rw [if_neg (by rw [show neK id ((s.getD p default).Boxes.getD k 0) = false from hc3]; decide)] at hft
        refine good_run 7 (obs := [InK IntKind.i64 ((↑k : Int) + (1 : Int))]) (by kernel_rfl) (by (first | omega | assumption | exact ⟨rfl, trivial⟩ | simp only [AllP, inK_iff, roomOK_iff, decide_eq_true_eq, Bool.and_eq_true, Bool.or_eq_true, Bool.not_eq_true', decide_eq_false_iff_not, and_true, true_and]; (first | omega | (and_intros <;> intros <;> (try and_intros) <;> first | omega | assumption | exact trivial)))) ?_
        refine good_backJ (k + 1) [List.length (remF id (List.take p s)) = List.length (remF id (List.take p s)) ∧ ∀ (i : Nat), i < List.length (remF id (List.take p s)) → (fun i => Std.cells (List.getD (remF id (List.take p s)) i default)) i = (fun i => Std.cells (List.getD (remF id (List.take p s)) i default)) i, (List.getD s p default).Shelf = (List.getD s p default).Shelf, List.length (List.getD s p default).Boxes = List.length (List.getD s p default).Boxes ∧ ∀ (i : Nat), i < List.length (List.getD s p default).Boxes → (fun i => [SV.int IntKind.i64 (List.getD (List.getD s p default).Boxes i (0 : Int))]) i = (fun i => [SV.int IntKind.i64 (List.getD (List.getD s p default).Boxes i (0 : Int))]) i, List.length (List.filter (neK id) (List.take k (List.getD s p default).Boxes)) = List.length (List.filter (neK id) (List.take (k + (1 : Nat)) (List.getD s p default).Boxes)) ∧ ∀ (i : Nat), i < List.length (List.filter (neK id) (List.take k (List.getD s p default).Boxes)) → (fun i => [SV.int IntKind.i64 (List.getD (List.filter (neK id) (List.take k (List.getD s p default).Boxes)) i (0 : Int))]) i = (fun i => [SV.int IntKind.i64 (List.getD (List.filter (neK id) (List.take (k + (1 : Nat)) (List.getD s p default).Boxes)) i (0 : Int))]) i, (↑k : Int) + (1 : Int) = (↑(k + (1 : Nat)) : Int), (↑(List.length (List.getD s p default).Boxes) : Int) = (↑(List.length (List.getD s p default).Boxes) : Int), List.length (List.getD s p default).Boxes = List.length (List.getD s p default).Boxes ∧ ∀ (i : Nat), i < List.length (List.getD s p default).Boxes → (fun i => [SV.int IntKind.i64 (List.getD (List.getD s p default).Boxes i (0 : Int))]) i = (fun i => [SV.int IntKind.i64 (List.getD (List.getD s p default).Boxes i (0 : Int))]) i, (↑p : Int) = (↑p : Int), (↑(List.length s) : Int) = (↑(List.length s) : Int), List.length s = List.length s ∧ ∀ (i : Nat), i < List.length s → (fun i => Std.cells (List.getD s i default)) i = (fun i => Std.cells (List.getD s i default)) i, id = id] (by kernel_rfl) (by kernel_rfl) ⟨⟨rfl, fun _ _ => rfl⟩, rfl, ⟨rfl, fun _ _ => rfl⟩, ?_, (by omega), rfl, ⟨rfl, fun _ _ => rfl⟩, rfl, rfl, ⟨rfl, fun _ _ => rfl⟩, rfl, trivial⟩ (by omega) (by show _ < _; omega)
        rw [hft]
        exact ⟨rfl, fun _ _ => rfl⟩
    · have hkl : k = (s.getD p default).Boxes.length := by simp only [decide_eq_false_iff_not] at hc2; omega
      subst hkl
      rw [List.take_length] at *
      refine good_run 2 (obs := []) (by kernel_rfl) trivial ?_
      refine good_leaveJ (by kernel_rfl) ?_
      refine good_run 8 (obs := []) (by kernel_rfl) trivial ?_
      refine good_cond (decide ((0 : Int) < (↑(List.length (List.filter (neK id) (List.getD s p default).Boxes)) : Int))) (by kernel_rfl) (fun hc3 => ?_) (fun hc3 => ?_)
      · rw [if_neg (fun e => by rw [e] at hc3; simp at hc3)] at hrt
        refine good_run 17 (obs := [(47 : Nat) = (47 : Nat) ∧ (2 : Nat) = (2 : Nat) ∧ (2 : Nat) = (2 : Nat) ∧ roomOK (List.length (remF id (List.take p s)) + (1 : Nat)) (32 : Nat), InK IntKind.i64 ((↑p : Int) + (1 : Int))]) (by kernel_rfl) (by (first | omega | assumption | exact ⟨rfl, trivial⟩ | simp only [AllP, inK_iff, roomOK_iff, decide_eq_true_eq, Bool.and_eq_true, Bool.or_eq_true, Bool.not_eq_true', decide_eq_false_iff_not, and_true, true_and]; (first | omega | (and_intros <;> intros <;> (try and_intros) <;> first | omega | assumption | exact trivial)))) ?_
        refine good_backJ (p + 1) [List.length (remF id (List.take p s)) + (1 : Nat) = List.length (remF id (List.take (p + (1 : Nat)) s)) ∧ ∀ (i : Nat), i < List.length (remF id (List.take p s)) + (1 : Nat) → joinGet (List.length (remF id (List.take p s))) (fun i => Std.cells (List.getD (remF id (List.take p s)) i default)) (cutRows (2 : Nat) [SV.int IntKind.i64 (List.getD s p default).Shelf, SV.lst (1 : Nat) (List.length (List.filter (neK id) (List.getD s p default).Boxes)) fun i => [SV.int IntKind.i64 (List.getD (List.filter (neK id) (List.getD s p default).Boxes) i (0 : Int))]]) i = (fun i => Std.cells (List.getD (remF id (List.take (p + (1 : Nat)) s)) i default)) i, (↑p : Int) + (1 : Int) = (↑(p + (1 : Nat)) : Int), (↑(List.length s) : Int) = (↑(List.length s) : Int), List.length s = List.length s ∧ ∀ (i : Nat), i < List.length s → (fun i => Std.cells (List.getD s i default)) i = (fun i => Std.cells (List.getD s i default)) i, id = id] (by kernel_rfl) (by kernel_rfl) ⟨?_, (by omega), rfl, ⟨rfl, fun _ _ => rfl⟩, rfl, trivial⟩ (by omega) (by show _ < _; omega)
        rw [hrt]
        exact row_snoc' Std.cells default _ (⟨(s.getD p default).Shelf, (s.getD p default).Boxes.filter (neK id)⟩ : Std) 2 rfl
      · have e : (s.getD p default).Boxes.filter (neK id) = [] := by
          simp only [decide_eq_false_iff_not] at hc3
          exact List.length_eq_zero_iff.1 (by omega)
        rw [if_pos e] at hrt
        refine good_run 7 (obs := [InK IntKind.i64 ((↑p : Int) + (1 : Int))]) (by kernel_rfl) (by (first | omega | assumption | exact ⟨rfl, trivial⟩ | simp only [AllP, inK_iff, roomOK_iff, decide_eq_true_eq, Bool.and_eq_true, Bool.or_eq_true, Bool.not_eq_true', decide_eq_false_iff_not, and_true, true_and]; (first | omega | (and_intros <;> intros <;> (try and_intros) <;> first | omega | assumption | exact trivial)))) ?_
        refine good_backJ (p + 1) [List.length (remF id (List.take p s)) = List.length (remF id (List.take (p + (1 : Nat)) s)) ∧ ∀ (i : Nat), i < List.length (remF id (List.take p s)) → (fun i => Std.cells (List.getD (remF id (List.take p s)) i default)) i = (fun i => Std.cells (List.getD (remF id (List.take (p + (1 : Nat)) s)) i default)) i, (↑p : Int) + (1 : Int) = (↑(p + (1 : Nat)) : Int), (↑(List.length s) : Int) = (↑(List.length s) : Int), List.length s = List.length s ∧ ∀ (i : Nat), i < List.length s → (fun i => Std.cells (List.getD s i default)) i = (fun i => Std.cells (List.getD s i default)) i, id = id] (by kernel_rfl) (by kernel_rfl) ⟨?_, (by omega), rfl, ⟨rfl, fun _ _ => rfl⟩, rfl, trivial⟩ (by omega) (by show _ < _; omega)
        rw [hrt]
        exact ⟨rfl, fun _ _ => rfl⟩
  · have hpl : p = s.length := by simp only [decide_eq_false_iff_not] at hc1; omega
    subst hpl
    rw [List.take_length]
    refine good_run 2 (obs := []) (by kernel_rfl) trivial ?_
    refine good_leaveJ (by kernel_rfl) ?_
    refine good_run 9 (obs := []) (by kernel_rfl) trivial ?_
    refine good_fin [List.length (remF id s) = List.length (remF id s) ∧ ∀ (i : Nat), i < List.length (remF id s) → (fun i => Std.cells (List.getD (remF id s) i default)) i = (fun i => Std.cells (List.getD (remF id s) i default)) i, (0 : Int) = (0 : Int)] (by kernel_rfl) ⟨⟨rfl, fun _ _ => rfl⟩, rfl, trivial⟩
theorem filt_none {id : Int} {x : List Int} (h : id ∉ x) : x.filter (neK id) = x :=
  List.filter_eq_self.2 fun y hy => by
    unfold neK
    rw [Bool.not_eq_true', decide_eq_false_iff_not]
    exact fun e => h (e ▸ hy)
theorem remF_none {id : Int} : ∀ {s : List Std}, (∀ x ∈ s, x.Boxes ≠ []) → id ∉ usedB s → remF id s = s
  | [], _, _ => rfl
  | y :: r, h1, h2 => by
    rw [usedB, List.mem_append] at h2
    have e := filt_none (id := id) (x := y.Boxes) fun h => h2 (.inl h)
    rw [remF, e, if_neg (h1 y (by simp)), remF_none (fun x hx => h1 x (by simp [hx])) (fun h => h2 (.inr h))]
theorem filt_erase {id : Int} : ∀ {x : List Int} (k : Nat), x.Nodup → k < x.length → x.getD k 0 = id → x.filter (neK id) = x.eraseIdx k
  | [], k, _, hk, _ => by simp at hk
  | y :: r, k, hn, hk, hid => by
    rw [List.nodup_cons] at hn
    cases k with
    | zero =>
      have hy : y = id := by simpa using hid
      subst hy
      rw [List.filter_cons_of_neg (by simp [neK]), filt_none hn.1]; rfl
    | succ k =>
      have hid' : r.getD k 0 = id := by simpa using hid
      have hk' : k < r.length := by simpa using hk
      have hy : y ≠ id := fun e => hn.1 (e ▸ hid' ▸ getD_mem r 0 k hk')
      rw [List.filter_cons_of_pos (by simp [neK, hy]), filt_erase k hn.2 hk' hid']; rfl
theorem remF_at {id : Int} : ∀ {s : List Std} (i k : Nat), (∀ x ∈ s, x.Boxes ≠ []) → (usedB s).Nodup → i < s.length → k < (s.getD i default).Boxes.length → (s.getD i default).Boxes.getD k 0 = id → remF id s = removeL s i k
  | [], i, k, _, _, hi, _, _ => by simp at hi
  | y :: r, i, k, h1, hn, hi, hk, hid => by
    rw [usedB, List.nodup_append] at hn
    obtain ⟨n1, n2, n3⟩ := hn
    cases i with
    | zero =>
      have hk' : k < y.Boxes.length := by simpa using hk
      have hid' : y.Boxes.getD k 0 = id := by simpa using hid
      have hmem : id ∈ y.Boxes := hid' ▸ getD_mem _ 0 k hk'
      have hr := remF_none (id := id) (s := r) (fun x hx => h1 x (by simp [hx])) (fun h => n3 id hmem id h rfl)
      have he := filt_erase (id := id) k n1 hk' hid'
      have hl : (y.Boxes.eraseIdx k).length = y.Boxes.length - 1 := by rw [List.length_eraseIdx, if_pos hk']
      rw [remF, he, hr, removeL]
      show _ = if y.Boxes.length = 1 then r else ⟨y.Shelf, y.Boxes.eraseIdx k⟩ :: r
      by_cases h : y.Boxes.length = 1
      · rw [if_pos h, if_pos (List.length_eq_zero_iff.1 (by omega))]
      · rw [if_neg h, if_neg (fun e => by rw [e] at hl; simp at hl; omega)]
    | succ i =>
      have hi' : i < r.length := by simpa using hi
      have hk' : k < (r.getD i default).Boxes.length := by simpa using hk
      have hid' : (r.getD i default).Boxes.getD k 0 = id := by simpa using hid
      have hmem : id ∈ usedB r := (mem_usedB id r).2 ⟨i, hi', hid' ▸ getD_mem _ 0 k hk'⟩
      have hy : id ∉ y.Boxes := fun h => n3 id h id hmem rfl
      rw [remF, filt_none hy, if_neg (h1 y (by simp)), remF_at i k (fun x hx => h1 x (by simp [hx])) n2 hi' hk' hid']
      unfold removeL
      show y :: (if (r.getD i default).Boxes.length = 1 then _ else _) = if (r.getD i default).Boxes.length = 1 then y :: r.eraseIdx i else y :: r.set i _
      split <;> rfl
theorem s31 (l : List Shf) (b : List Box) (s : List Std) (id : Int) (hs : s.length ≤ 100) (hx : ∀ y ∈ s, y.Boxes.length ≤ 1000) :
    Spec Try.prog 31 [shfs l, boxes b, stds s, .int .i64 id] (.tup [stds (removeR l b s id).1, .int .i64 (removeR l b s id).2]) := by
  have hs' : s.length ≤ 100000 := by omega
  have hx' : ∀ y ∈ s, y.Boxes.length ≤ 100000 := fun y hy => by have := hx y hy; omega
  by_cases h0 : (findR l b s id).2.2 = 0
  · have hr : removeR l b s id = (remF id s, 0) := by
      unfold findR at h0
      unfold removeR
      by_cases h : checkS l b s = 0
      · rw [if_neg (fun g => g h)] at h0 ⊢
        by_cases h1 : isK b Box.ID id = false
        · rw [if_pos h1] at h0; cases h0
        · rw [if_neg h1] at h0 ⊢
          rcases findP_cases id s 0 with ⟨g1, g2⟩ | ⟨i, k, hi, hk, g1, g2, g3, g4⟩
          · rw [if_pos (by rw [g1]; decide)] at h0; cases h0
          · have hR := right_of h
            rw [Nat.zero_add] at g1
            rw [if_neg (by rw [g1]; show ¬ (i : Int) < 0; omega), g1]
            rw [remF_at i k (fun x hx => (hR.on x hx).2.1) hR.nd hi hk g3]
            rfl
      · rw [if_pos h] at h0; cases h0
    rw [hr]
    exact s31a l b s id hs hx h0
  · have hr : removeR l b s id = ([], (findR l b s id).2.2) := by
      by_cases h : checkS l b s = 0
      · have f0 : findR l b s id = if isK b Box.ID id = false then (0, 0, 7) else if (findP id 0 s).1 < 0 then (0, 0, 11)
          else ((s.getD (findP id 0 s).1.toNat default).Shelf, widthI b ((s.getD (findP id 0 s).1.toNat default).Boxes.take (findP id 0 s).2.toNat), 0) := by rw [findR, if_neg (fun g => g h)]
        have r0 : removeR l b s id = if isK b Box.ID id = false then ([], 7) else if (findP id 0 s).1 < 0 then ([], 11) else (removeL s (findP id 0 s).1.toNat (findP id 0 s).2.toNat, 0) := by rw [removeR, if_neg (fun g => g h)]
        by_cases h1 : isK b Box.ID id = false
        · rw [r0, f0, if_pos h1, if_pos h1]
        · rw [if_neg h1] at f0 r0
          by_cases h2 : (findP id 0 s).1 < 0
          · rw [r0, f0, if_pos h2, if_pos h2]
          · rw [if_neg h2] at f0
            rw [f0] at h0
            exact absurd rfl h0
      · rw [removeR, findR, if_pos h, if_pos h]
    rw [hr]
    refine spec_of_good mixed Try.func31 F31_ok (by kernel_rfl) ?_
    refine good_run 13 (obs := []) (by kernel_rfl) trivial ?_
    refine good_call (c := True) (by kernel_rfl) (fun _ => SVles.refl _) (fun _ => s21 (l) (b) (s) (id) (by (first | omega | assumption | exact ⟨rfl, trivial⟩ | simp only [AllP, inK_iff, roomOK_iff, decide_eq_true_eq, Bool.and_eq_true, Bool.or_eq_true, Bool.not_eq_true', decide_eq_false_iff_not, and_true, true_and]; (first | omega | (and_intros <;> intros <;> (try and_intros) <;> first | omega | assumption | exact trivial)))) (by (first | omega | assumption | exact ⟨rfl, trivial⟩ | simp only [AllP, inK_iff, roomOK_iff, decide_eq_true_eq, Bool.and_eq_true, Bool.or_eq_true, Bool.not_eq_true', decide_eq_false_iff_not, and_true, true_and]; (first | omega | (and_intros <;> intros <;> (try and_intros) <;> first | omega | assumption | exact trivial))))) (by kernel_rfl) ?_
    refine good_run 15 (obs := []) (by kernel_rfl) trivial ?_
    refine good_cond (!decide ((findR l b s id).snd.2 = (0 : Int))) (by kernel_rfl) (fun hc1 => ?_) (fun hc1 => ?_)
    · refine good_run 9 (obs := []) (by kernel_rfl) trivial ?_
      refine good_fin [(0 : Nat) = (0 : Nat), (findR l b s id).snd.2 = (findR l b s id).snd.2] (by kernel_rfl) ⟨rfl, rfl, trivial⟩
    · simp only [Bool.not_eq_false', decide_eq_true_eq] at hc1
      exact absurd hc1 h0
end Go.Sx.T
