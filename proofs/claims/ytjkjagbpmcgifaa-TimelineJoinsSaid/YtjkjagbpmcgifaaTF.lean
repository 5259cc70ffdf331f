/- Contracts of functions of the program, each proved by running its code symbolically (TF). -/
import Derived.Test.YtjkjagbpmcgifaaTE
namespace Go.Sx.T
open Go Go.Proofs Go.Sx
set_option maxRecDepth 100000
set_option maxHeartbeats 4000000
set_option linter.unusedVariables false
set_option linter.unusedSimpArgs false
def exL : List Piece := [⟨10, 20, 1⟩]
def exA : List Piece := [⟨10, 15, 1⟩, ⟨15, 25, 2⟩]
def exB : List Piece := [⟨10, 12, 1⟩, ⟨14, 20, 1⟩]
theorem isort_of {a b : List Int} (h : a.Perm b) (hs : b.Pairwise (· ≤ ·)) : isort a = b :=
  List.Perm.eq_of_pairwise (le := (· ≤ ·)) (fun x y _ _ h1 h2 => Int.le_antisymm h1 h2) (isort_sorted a) hs ((isort_perm a).trans h)
theorem ex_set : replaceR exL 15 25 (some 2) = (exA, 0) := by
  have h : isort (keysOf (psOf [⟨15, 25⟩] [exL])) = [10, 15, 20, 25] := isort_of (by decide) (by decide)
  unfold replaceR
  rw [h]
  decide
theorem ex_clear : replaceR exL 12 14 none = (exB, 0) := by
  have h : isort (keysOf (psOf [⟨12, 14⟩] [exL])) = [10, 12, 14, 20] := isort_of (by decide) (by decide)
  unfold replaceR
  rw [h]
  decide
theorem ex_le : SVle (.lst 3 1 (cutRows 3 [.int .i64 10, .int .i64 20, .int .i64 1])) (pieces exL) :=
  svle_lst rfl fun i hi => by
    have : i = 0 := by omega
    subst this; exact SVles.refl _
theorem s12a : Spec Try.prog 12 [pieces exL, .agg [.int .i64 15, .int .i64 25], .int .i64 2] (.tup [pieces exA, .int .i64 0]) := by
  have := s12 exL 15 25 2
  rwa [ex_set] at this
theorem s14a : Spec Try.prog 14 [pieces exL, .agg [.int .i64 12, .int .i64 14]] (.tup [pieces exB, .int .i64 0]) := by
  have := s14 exL 12 14
  rwa [ex_clear] at this
theorem s17a : Spec Try.prog 17 [pieces exL, .int .i64 19] (.tup [.int .i64 1, .bool true]) := s17 exL 19
theorem s19a : Spec Try.prog 19 [pieces exL, .int .i64 1] (.int .i64 10) := s19 exL 1
theorem s10 : Spec Try.prog 10 [] (.bool true) := by
  refine spec_of_good mixed Try.func10 F10_ok (by kernel_rfl) ?_
  have heq := eq47
  refine good_run 17 (obs := []) (by kernel_rfl) trivial ?_
  refine good_call (args := [SV.lst (3 : Nat) (1 : Nat) (cutRows (3 : Nat) [SV.int IntKind.i64 (10 : Int), SV.int IntKind.i64 (20 : Int), SV.int IntKind.i64 (1 : Int)]), SV.agg [SV.int IntKind.i64 (15 : Int), SV.int IntKind.i64 (25 : Int)], SV.int IntKind.i64 (2 : Int)]) (c := True) (by kernel_rfl) (fun _ => SVles.cons ex_le (SVles.refl _)) (fun _ => s12a) (by kernel_rfl) ?_
  refine good_run 11 (obs := []) (by kernel_rfl) trivial ?_
  refine good_call (args := [SV.lst (3 : Nat) (1 : Nat) (cutRows (3 : Nat) [SV.int IntKind.i64 (10 : Int), SV.int IntKind.i64 (20 : Int), SV.int IntKind.i64 (1 : Int)]), SV.agg [SV.int IntKind.i64 (12 : Int), SV.int IntKind.i64 (14 : Int)]]) (c := True) (by kernel_rfl) (fun _ => SVles.cons ex_le (SVles.refl _)) (fun _ => s14a) (by kernel_rfl) ?_
  refine good_run 10 (obs := []) (by kernel_rfl) trivial ?_
  refine good_call (args := [SV.lst (3 : Nat) (1 : Nat) (cutRows (3 : Nat) [SV.int IntKind.i64 (10 : Int), SV.int IntKind.i64 (20 : Int), SV.int IntKind.i64 (1 : Int)]), SV.int IntKind.i64 (19 : Int)]) (c := True) (by kernel_rfl) (fun _ => SVles.cons ex_le (SVles.refl _)) (fun _ => s17a) (by kernel_rfl) ?_
  refine good_run 51 (obs := [(decide ((0 : Int) = (0 : Int)) && decide ((0 : Int) = (0 : Int)) && decide ((2 : Int) = (2 : Int))) = true ∧ True → (3 : Nat) = (3 : Nat) ∧ (0 : Int) ≤ (1 : Int) ∧ (1 : Int) < (2 : Int), (decide ((0 : Int) = (0 : Int)) && decide ((0 : Int) = (0 : Int)) && decide ((2 : Int) = (2 : Int))) = true ∧ True → (0 : Nat) + (3 : Nat) ≤ (3 : Nat), (decide ((0 : Int) = (0 : Int)) && decide ((0 : Int) = (0 : Int)) && decide ((2 : Int) = (2 : Int))) = true ∧ True → EqOK Try.prog (47 : TypeId) (3 : Nat) ∧ (3 : Nat) = (3 : Nat), (decide ((0 : Int) = (0 : Int)) && decide ((0 : Int) = (0 : Int)) && decide ((2 : Int) = (2 : Int)) && (false ^^ decide ([(List.getD exA (1 : Nat) default).From, (List.getD exA (1 : Nat) default).Until, (List.getD exA (1 : Nat) default).Value] = [(15 : Int), (25 : Int), (2 : Int)])) && decide ((2 : Int) = (2 : Int))) = true ∧ True → (3 : Nat) = (3 : Nat) ∧ (0 : Int) ≤ (1 : Int) ∧ (1 : Int) < (2 : Int)]) (by kernel_rfl) (by (first | omega | assumption | exact ⟨rfl, trivial⟩ | simp only [AllP, inK_iff, roomOK_iff, decide_eq_true_eq, Bool.and_eq_true, Bool.or_eq_true, Bool.not_eq_true', decide_eq_false_iff_not, and_true, true_and]; (first | omega | (and_intros <;> intros <;> (try and_intros) <;> first | omega | assumption | exact trivial)))) ?_
  refine good_call (args := [SV.lst (3 : Nat) (1 : Nat) (cutRows (3 : Nat) [SV.int IntKind.i64 (10 : Int), SV.int IntKind.i64 (20 : Int), SV.int IntKind.i64 (1 : Int)]), SV.int IntKind.i64 (1 : Int)]) (c := (decide ((0 : Int) = (0 : Int)) && decide ((0 : Int) = (0 : Int)) && decide ((2 : Int) = (2 : Int)) && (false ^^ decide ([(List.getD exA (1 : Nat) default).From, (List.getD exA (1 : Nat) default).Until, (List.getD exA (1 : Nat) default).Value] = [(15 : Int), (25 : Int), (2 : Int)])) && decide ((2 : Int) = (2 : Int)) && decide ((List.getD exB (1 : Nat) default).From = (14 : Int)) && true && decide ((1 : Int) = (1 : Int))) = true ∧ True) (by kernel_rfl) (fun _ => SVles.cons ex_le (SVles.refl _)) (fun _ => s19a) (by kernel_rfl) ?_
  refine good_run 7 (obs := []) (by kernel_rfl) trivial ?_
  refine good_fin [(decide ((0 : Int) = (0 : Int)) && decide ((0 : Int) = (0 : Int)) && decide ((2 : Int) = (2 : Int)) && (false ^^ decide ([(List.getD exA (1 : Nat) default).From, (List.getD exA (1 : Nat) default).Until, (List.getD exA (1 : Nat) default).Value] = [(15 : Int), (25 : Int), (2 : Int)])) && decide ((2 : Int) = (2 : Int)) && decide ((List.getD exB (1 : Nat) default).From = (14 : Int)) && true && decide ((1 : Int) = (1 : Int)) && decide ((10 : Int) = (10 : Int))) = true] (by kernel_rfl) ⟨(by rfl), trivial⟩
theorem s6 (l : List Piece) (day from' v : Int) : Spec Try.prog 6 [pieces l, .int .i64 day, .int .i64 from', .int .i64 v] (.bool true) := by
  refine spec_of_good mixed Try.func6 F6_ok (by kernel_rfl) ?_
  refine good_run 8 (obs := []) (by kernel_rfl) trivial ?_
  refine good_call (c := True) (by kernel_rfl) (fun _ => SVles.refl _) (fun _ => s10) (by kernel_rfl) ?_
  refine good_run 3 (obs := []) (by kernel_rfl) trivial ?_
  refine good_cond false (by kernel_rfl) (fun h => nomatch h) (fun _ => ?_)
  refine good_run 5 (obs := []) (by kernel_rfl) trivial ?_
  refine good_call (c := True) (by kernel_rfl) (fun _ => SVles.refl _) (fun _ => s11 (l)) (by kernel_rfl) ?_
  refine good_run 3 (obs := []) (by kernel_rfl) trivial ?_
  refine good_cond (!few l) (by kernel_rfl) (fun hc1 => ?_) (fun hc1 => ?_)
  · refine good_run 7 (obs := []) (by kernel_rfl) trivial ?_
    refine good_fin [true = true] (by kernel_rfl) ⟨rfl, trivial⟩
  · refine good_run 5 (obs := []) (by kernel_rfl) trivial ?_
    refine good_call (c := True) (by kernel_rfl) (fun _ => SVles.refl _) (fun _ => s17 (l) (day)) (by kernel_rfl) ?_
    refine good_run 11 (obs := []) (by kernel_rfl) trivial ?_
    refine good_call (c := True) (by kernel_rfl) (fun _ => SVles.refl _) (fun _ => s20 (l) (day)) (by kernel_rfl) ?_
    refine good_run 12 (obs := []) (by kernel_rfl) trivial ?_
    refine good_call (c := True) (by kernel_rfl) (fun _ => SVles.refl _) (fun _ => s21 (l) (from') (v)) (by kernel_rfl) ?_
    refine good_run 12 (obs := []) (by kernel_rfl) trivial ?_
    refine good_call (c := True) (by kernel_rfl) (fun _ => SVles.refl _) (fun _ => s22 (l) (from') (v)) (by kernel_rfl) ?_
    refine good_run 10 (obs := []) (by kernel_rfl) trivial ?_
    refine good_call (c := True) (by kernel_rfl) (fun _ => SVles.refl _) (fun _ => s18 (l)) (by kernel_rfl) ?_
    refine good_run 1 (obs := []) (by kernel_rfl) trivial ?_
    refine good_call (c := True) (by kernel_rfl) (fun _ => SVles.refl _) (fun _ => s23 (l)) (by kernel_rfl) ?_
    refine good_run 25 (obs := []) (by kernel_rfl) trivial ?_
    refine good_call (c := (decide (check l = check l) && decide (optV (atF l day) = optV (atF l day)) && okV (atF l day) == okV (atF l day) && decide (firstR l from' v = firstR l from' v) && (decide (check l = (0 : Int)) && okV (firstP l from' v)) == (decide (check l = (0 : Int)) && okV (firstP l from' v))) = true ∧ True) (by kernel_rfl) (fun _ => SVles.refl _) (fun _ => s19 (l) (v)) (by kernel_rfl) ?_
    refine good_run 4 (obs := []) (by kernel_rfl) trivial ?_
    refine good_call (c := (decide (check l = check l) && decide (optV (atF l day) = optV (atF l day)) && okV (atF l day) == okV (atF l day) && decide (firstR l from' v = firstR l from' v) && (decide (check l = (0 : Int)) && okV (firstP l from' v)) == (decide (check l = (0 : Int)) && okV (firstP l from' v))) = true ∧ True) (by kernel_rfl) (fun _ => SVles.refl _) (fun _ => s24 (l) (v)) (by kernel_rfl) ?_
    refine good_run 7 (obs := []) (by kernel_rfl) trivial ?_
    refine good_fin [(decide (check l = check l) && decide (optV (atF l day) = optV (atF l day)) && okV (atF l day) == okV (atF l day) && decide (firstR l from' v = firstR l from' v) && (decide (check l = (0 : Int)) && okV (firstP l from' v)) == (decide (check l = (0 : Int)) && okV (firstP l from' v)) && decide (daysR l v = daysR l v)) = true] (by kernel_rfl) ⟨?_, trivial⟩
    simp
end Go.Sx.T
