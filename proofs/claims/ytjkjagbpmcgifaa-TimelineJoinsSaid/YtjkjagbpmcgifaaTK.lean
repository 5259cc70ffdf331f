/- Contracts of functions of the program, each proved by running its code symbolically (TK). -/
import Derived.Test.YtjkjagbpmcgifaaTJ
import Derived.Test.YtjkjagbpmcgifaaTF
namespace Go.Sx.T
open Go Go.Proofs Go.Sx
set_option maxRecDepth 100000
set_option maxHeartbeats 4000000
set_option linter.unusedVariables false
set_option linter.unusedSimpArgs false
theorem one_piece (a b v : Int) : SVle (.lst 3 1 (cutRows 3 [.int .i64 a, .int .i64 b, .int .i64 v])) (pieces [⟨a, b, v⟩]) :=
  svle_lst rfl fun i hi => by
    have : i = 0 := by omega
    subst this; exact SVles.refl _
theorem no_piece : SVle (.val (.slice none 0 0)) (pieces []) := svle_nil rfl
theorem s31a (l : List Piece) (a b v : Int) : Spec Try.prog 31 [pieces l, .agg [.int .i64 a, .int .i64 b], pieces [⟨a, b, v⟩]] (.tup [pieces (replaceR l a b (some v)).1, .int .i64 (replaceR l a b (some v)).2]) := by
  have := s31 l a b [⟨a, b, v⟩] (by simp)
  rwa [← set_same] at this
theorem s31b (l : List Piece) (a b : Int) : Spec Try.prog 31 [pieces l, .agg [.int .i64 a, .int .i64 b], pieces []] (.tup [pieces (replaceR l a b none).1, .int .i64 (replaceR l a b none).2]) := by
  have := s31 l a b [] (by simp)
  rwa [← clear_same] at this
theorem s13 (l : List Piece) (a b v : Int) : Spec Try.prog 13 [pieces l, .agg [.int .i64 a, .int .i64 b], .int .i64 v] (.tup [pieces (replaceR l a b (some v)).1, .int .i64 (replaceR l a b (some v)).2]) := by
  refine spec_of_good mixed Try.func13 F13_ok (by kernel_rfl) ?_
  refine good_run 15 (obs := [(0 : Nat) + (2 : Nat) ≤ (2 : Nat), (0 : Nat) + (2 : Nat) ≤ (2 : Nat)]) (by kernel_rfl) (by (first | omega | assumption | exact ⟨rfl, trivial⟩ | simp only [AllP, inK_iff, roomOK_iff, decide_eq_true_eq, Bool.and_eq_true, Bool.or_eq_true, Bool.not_eq_true', decide_eq_false_iff_not, and_true, true_and]; (first | omega | (and_intros <;> intros <;> (try and_intros) <;> first | omega | assumption | exact trivial)))) ?_
  refine good_call (args := [SV.lst (3 : Nat) (List.length l) fun i => Piece.cells (List.getD l i default), SV.agg [SV.int IntKind.i64 a, SV.int IntKind.i64 b], SV.lst (3 : Nat) (1 : Nat) (cutRows (3 : Nat) [SV.int IntKind.i64 a, SV.int IntKind.i64 b, SV.int IntKind.i64 v])]) (c := True) (by kernel_rfl) (fun _ => SVles.cons (SVle.refl _) (SVles.cons (SVle.refl _) (SVles.cons (one_piece a b v) (SVles.refl [])))) (fun _ => s31a l a b v) (by kernel_rfl) ?_
  refine good_run 7 (obs := []) (by kernel_rfl) trivial ?_
  refine good_fin [List.length (replaceR l a b (some v)).fst = List.length (replaceR l a b (some v)).fst ∧ ∀ (i : Nat), i < List.length (replaceR l a b (some v)).fst → (fun i => Piece.cells (List.getD (replaceR l a b (some v)).fst i default)) i = (fun i => Piece.cells (List.getD (replaceR l a b (some v)).fst i default)) i, (replaceR l a b (some v)).snd = (replaceR l a b (some v)).snd] (by kernel_rfl) ⟨⟨rfl, fun _ _ => rfl⟩, rfl, trivial⟩
theorem s15 (l : List Piece) (a b : Int) : Spec Try.prog 15 [pieces l, .agg [.int .i64 a, .int .i64 b]] (.tup [pieces (replaceR l a b none).1, .int .i64 (replaceR l a b none).2]) := by
  refine spec_of_good mixed Try.func15 F15_ok (by kernel_rfl) ?_
  refine good_run 11 (obs := [(0 : Nat) + (2 : Nat) ≤ (2 : Nat)]) (by kernel_rfl) (by (first | omega | assumption | exact ⟨rfl, trivial⟩ | simp only [AllP, inK_iff, roomOK_iff, decide_eq_true_eq, Bool.and_eq_true, Bool.or_eq_true, Bool.not_eq_true', decide_eq_false_iff_not, and_true, true_and]; (first | omega | (and_intros <;> intros <;> (try and_intros) <;> first | omega | assumption | exact trivial)))) ?_
  refine good_call (args := [SV.lst (3 : Nat) (List.length l) fun i => Piece.cells (List.getD l i default), SV.agg [SV.int IntKind.i64 a, SV.int IntKind.i64 b], SV.val (Value.slice none (0 : Nat) (0 : Nat))]) (c := True) (by kernel_rfl) (fun _ => SVles.cons (SVle.refl _) (SVles.cons (SVle.refl _) (SVles.cons no_piece (SVles.refl [])))) (fun _ => s31b l a b) (by kernel_rfl) ?_
  refine good_run 7 (obs := []) (by kernel_rfl) trivial ?_
  refine good_fin [List.length (replaceR l a b none).fst = List.length (replaceR l a b none).fst ∧ ∀ (i : Nat), i < List.length (replaceR l a b none).fst → (fun i => Piece.cells (List.getD (replaceR l a b none).fst i default)) i = (fun i => Piece.cells (List.getD (replaceR l a b none).fst i default)) i, (replaceR l a b none).snd = (replaceR l a b none).snd] (by kernel_rfl) ⟨⟨rfl, fun _ _ => rfl⟩, rfl, trivial⟩
theorem s3 (l : List Piece) (a b v : Int) : Spec Try.prog 3 [pieces l, .agg [.int .i64 a, .int .i64 b], .int .i64 v] (.bool true) := by
  refine spec_of_good mixed Try.func3 F3_ok (by kernel_rfl) ?_
  refine good_run 9 (obs := []) (by kernel_rfl) trivial ?_
  refine good_call (c := True) (by kernel_rfl) (fun _ => SVles.refl _) (fun _ => s10) (by kernel_rfl) ?_
  refine good_run 3 (obs := []) (by kernel_rfl) trivial ?_
  refine good_cond false (by kernel_rfl) (fun h => nomatch h) (fun _ => ?_)
  refine good_run 5 (obs := []) (by kernel_rfl) trivial ?_
  refine good_call (c := True) (by kernel_rfl) (fun _ => SVles.refl _) (fun _ => s11 (l)) (by kernel_rfl) ?_
  refine good_run 3 (obs := []) (by kernel_rfl) trivial ?_
  refine good_cond (!few l) (by kernel_rfl) (fun hc1 => ?_) (fun hc1 => ?_)
  · refine good_run 7 (obs := []) (by kernel_rfl) trivial ?_
    refine good_fin [true = true] (by kernel_rfl) ⟨rfl, trivial⟩
  · refine good_run 6 (obs := [(0 : Nat) + (2 : Nat) ≤ (2 : Nat)]) (by kernel_rfl) (by (first | omega | assumption | exact ⟨rfl, trivial⟩ | simp only [AllP, inK_iff, roomOK_iff, decide_eq_true_eq, Bool.and_eq_true, Bool.or_eq_true, Bool.not_eq_true', decide_eq_false_iff_not, and_true, true_and]; (first | omega | (and_intros <;> intros <;> (try and_intros) <;> first | omega | assumption | exact trivial)))) ?_
    refine good_call (c := True) (by kernel_rfl) (fun _ => SVles.refl _) (fun _ => s12 (l) (a) (b) (v)) (by kernel_rfl) ?_
    refine good_run 12 (obs := [(0 : Nat) + (2 : Nat) ≤ (2 : Nat)]) (by kernel_rfl) (by (first | omega | assumption | exact ⟨rfl, trivial⟩ | simp only [AllP, inK_iff, roomOK_iff, decide_eq_true_eq, Bool.and_eq_true, Bool.or_eq_true, Bool.not_eq_true', decide_eq_false_iff_not, and_true, true_and]; (first | omega | (and_intros <;> intros <;> (try and_intros) <;> first | omega | assumption | exact trivial)))) ?_
    refine good_call (c := True) (by kernel_rfl) (fun _ => SVles.refl _) (fun _ => s13 (l) (a) (b) (v)) (by kernel_rfl) ?_
    refine good_run 11 (obs := [(0 : Nat) + (2 : Nat) ≤ (2 : Nat)]) (by kernel_rfl) (by (first | omega | assumption | exact ⟨rfl, trivial⟩ | simp only [AllP, inK_iff, roomOK_iff, decide_eq_true_eq, Bool.and_eq_true, Bool.or_eq_true, Bool.not_eq_true', decide_eq_false_iff_not, and_true, true_and]; (first | omega | (and_intros <;> intros <;> (try and_intros) <;> first | omega | assumption | exact trivial)))) ?_
    refine good_call (c := True) (by kernel_rfl) (fun _ => SVles.refl _) (fun _ => s14 (l) (a) (b)) (by kernel_rfl) ?_
    refine good_run 11 (obs := [(0 : Nat) + (2 : Nat) ≤ (2 : Nat)]) (by kernel_rfl) (by (first | omega | assumption | exact ⟨rfl, trivial⟩ | simp only [AllP, inK_iff, roomOK_iff, decide_eq_true_eq, Bool.and_eq_true, Bool.or_eq_true, Bool.not_eq_true', decide_eq_false_iff_not, and_true, true_and]; (first | omega | (and_intros <;> intros <;> (try and_intros) <;> first | omega | assumption | exact trivial)))) ?_
    refine good_call (c := True) (by kernel_rfl) (fun _ => SVles.refl _) (fun _ => s15 (l) (a) (b)) (by kernel_rfl) ?_
    refine good_run 11 (obs := []) (by kernel_rfl) trivial ?_
    refine good_call (c := True) (by kernel_rfl) (fun _ => SVles.refl _) (fun _ => s16 ((replaceR l a b (some v)).fst) ((replaceR l a b (some v)).fst)) (by kernel_rfl) ?_
    refine good_run 9 (obs := []) (by kernel_rfl) trivial ?_
    refine good_call (c := (decide ((replaceR l a b (some v)).fst = (replaceR l a b (some v)).fst) && decide ((replaceR l a b (some v)).snd = (replaceR l a b (some v)).snd)) = true ∧ True) (by kernel_rfl) (fun _ => SVles.refl _) (fun _ => s16 ((replaceR l a b none).fst) ((replaceR l a b none).fst)) (by kernel_rfl) ?_
    refine good_run 11 (obs := []) (by kernel_rfl) trivial ?_
    refine good_fin [(decide ((replaceR l a b (some v)).fst = (replaceR l a b (some v)).fst) && decide ((replaceR l a b (some v)).snd = (replaceR l a b (some v)).snd) && decide ((replaceR l a b none).fst = (replaceR l a b none).fst) && decide ((replaceR l a b none).snd = (replaceR l a b none).snd)) = true] (by kernel_rfl) ⟨?_, trivial⟩
    simp
end Go.Sx.T
