/- Contracts of functions of the program, each proved by running its code symbolically (HN). -/
import Derived.Test.YtgnffeajpmniiaaHM
namespace Go.Sx.T
open Go Go.Proofs Go.Sx
set_option maxRecDepth 100000
set_option maxHeartbeats 4000000
set_option linter.unusedVariables false
set_option linter.unusedSimpArgs false
theorem findP_cases (id : Int) : ∀ (s : List Std) (i : Nat), (findP id i s = (-1, -1) ∧ id ∉ usedB s) ∨
    ∃ j k : Nat, j < s.length ∧ k < (s.getD j default).Boxes.length ∧ findP id i s = (((i + j : Nat) : Int), (k : Int)) ∧ findI (s.getD j default).Boxes (eqK id) = k ∧ (s.getD j default).Boxes.getD k 0 = id ∧ id ∈ usedB s
  | [], i => by simp [findP, usedB]
  | x :: r, i => by
    rw [findP]
    rcases findI_eqK x.Boxes id with ⟨h1, h2⟩ | ⟨k, hk, h1, h2, h3⟩
    · rw [if_pos (by omega)]
      rcases findP_cases id r (i + 1) with ⟨g1, g2⟩ | ⟨j, k, hj, hk, g1, g2, g3, g4⟩
      · refine .inl ⟨g1, ?_⟩
        rw [usedB, List.mem_append]
        rintro (h | h)
        · exact h2 h
        · exact g2 h
      · refine .inr ⟨j + 1, k, by simpa using hj, by simpa using hk, ?_, by simpa using g2, by simpa using g3, ?_⟩
        · rw [g1]; congr 2; omega
        · rw [usedB, List.mem_append]; exact .inr g4
    · rw [if_neg (by omega)]
      refine .inr ⟨0, k, by simp, by simpa using hk, by rw [h1]; simp, by simpa using h1, by simpa using h2, ?_⟩
      rw [usedB, List.mem_append]; exact .inl h3
def locR (b : List Box) (s : List Std) (id : Int) : Int × Int × Int :=
  if isK b Box.ID id = false then (0, 0, 7) else if (findP id 0 s).1 < 0 then (0, 0, 11) else ((findP id 0 s).1, (findP id 0 s).2, 0)
theorem s49 (l : List Shf) (b : List Box) (s : List Std) (id : Int) (hab : Asc b Box.ID) (hb : b.length ≤ 100000) (hs : s.length ≤ 100000) :
    Spec Try.prog 49 [store l b s, .int .i64 id] (.tup [.int .i64 (locR b s id).1, .int .i64 (locR b s id).2.1, .int .i64 (locR b s id).2.2]) := by
  refine spec_of_good mixed Try.func49 F49_ok (by kernel_rfl) ?_
  refine good_run 13 (obs := [(0 : Nat) + (3 : Nat) ≤ (3 : Nat)]) (by kernel_rfl) (by (first | omega | assumption | exact ⟨rfl, trivial⟩ | simp only [AllP, inK_iff, roomOK_iff, decide_eq_true_eq, Bool.and_eq_true, Bool.or_eq_true, Bool.not_eq_true', decide_eq_false_iff_not, and_true, true_and]; (first | omega | (and_intros <;> intros <;> (try and_intros) <;> first | omega | assumption | exact trivial)))) ?_
  refine good_call (c := True) (by kernel_rfl) (fun _ => SVles.refl _) (fun _ => s52 (l) (b) (s) (id) (by (first | omega | assumption | exact ⟨rfl, trivial⟩ | simp only [AllP, inK_iff, roomOK_iff, decide_eq_true_eq, Bool.and_eq_true, Bool.or_eq_true, Bool.not_eq_true', decide_eq_false_iff_not, and_true, true_and]; (first | omega | (and_intros <;> intros <;> (try and_intros) <;> first | omega | assumption | exact trivial)))) (by (first | omega | assumption | exact ⟨rfl, trivial⟩ | simp only [AllP, inK_iff, roomOK_iff, decide_eq_true_eq, Bool.and_eq_true, Bool.or_eq_true, Bool.not_eq_true', decide_eq_false_iff_not, and_true, true_and]; (first | omega | (and_intros <;> intros <;> (try and_intros) <;> first | omega | assumption | exact trivial))))) (by kernel_rfl) ?_
  refine good_run 14 (obs := [(5 : Nat) = (5 : Nat) ∧ (0 : Nat) + (5 : Nat) ≤ (5 : Nat)]) (by kernel_rfl) (by (first | omega | assumption | exact ⟨rfl, trivial⟩ | simp only [AllP, inK_iff, roomOK_iff, decide_eq_true_eq, Bool.and_eq_true, Bool.or_eq_true, Bool.not_eq_true', decide_eq_false_iff_not, and_true, true_and]; (first | omega | (and_intros <;> intros <;> (try and_intros) <;> first | omega | assumption | exact trivial)))) ?_
  refine good_cond (!isK b Box.ID id) (by kernel_rfl) (fun hc1 => ?_) (fun hc1 => ?_)
  · simp only [Bool.not_eq_true'] at hc1
    have : locR b s id = (0, 0, 7) := by rw [locR, if_pos hc1]
    rw [this]
    refine good_run 9 (obs := []) (by kernel_rfl) trivial ?_
    refine good_fin [(0 : Int) = (0 : Int), (0 : Int) = (0 : Int), (7 : Int) = (7 : Int)] (by kernel_rfl) ⟨rfl, rfl, rfl, trivial⟩
  · simp only [Bool.not_eq_false'] at hc1
    refine good_run 5 (obs := [(0 : Nat) + (3 : Nat) ≤ (3 : Nat)]) (by kernel_rfl) (by (first | omega | assumption | exact ⟨rfl, trivial⟩ | simp only [AllP, inK_iff, roomOK_iff, decide_eq_true_eq, Bool.and_eq_true, Bool.or_eq_true, Bool.not_eq_true', decide_eq_false_iff_not, and_true, true_and]; (first | omega | (and_intros <;> intros <;> (try and_intros) <;> first | omega | assumption | exact trivial)))) ?_
    refine good_call (c := True) (by kernel_rfl) (fun _ => SVles.refl _) (fun _ => s53 (l) (b) (s) (id) (by (first | omega | assumption | exact ⟨rfl, trivial⟩ | simp only [AllP, inK_iff, roomOK_iff, decide_eq_true_eq, Bool.and_eq_true, Bool.or_eq_true, Bool.not_eq_true', decide_eq_false_iff_not, and_true, true_and]; (first | omega | (and_intros <;> intros <;> (try and_intros) <;> first | omega | assumption | exact trivial))))) (by kernel_rfl) ?_
    refine good_run 14 (obs := []) (by kernel_rfl) trivial ?_
    refine good_cond (decide ((findP id (0 : Nat) s).fst < (0 : Int))) (by kernel_rfl) (fun hc2 => ?_) (fun hc2 => ?_)
    · simp only [decide_eq_true_eq] at hc2
      have : locR b s id = (0, 0, 11) := by rw [locR, if_neg (by rw [hc1]; decide), if_pos hc2]
      rw [this]
      refine good_run 9 (obs := []) (by kernel_rfl) trivial ?_
      refine good_fin [(0 : Int) = (0 : Int), (0 : Int) = (0 : Int), (11 : Int) = (11 : Int)] (by kernel_rfl) ⟨rfl, rfl, rfl, trivial⟩
    · simp only [decide_eq_false_iff_not] at hc2
      have : locR b s id = ((findP id 0 s).1, (findP id 0 s).2, 0) := by rw [locR, if_neg (by rw [hc1]; decide), if_neg hc2]
      rw [this]
      refine good_run 11 (obs := []) (by kernel_rfl) trivial ?_
      refine good_fin [(findP id (0 : Nat) s).fst = (findP id (0 : Nat) s).fst, (findP id (0 : Nat) s).snd = (findP id (0 : Nat) s).snd, (0 : Int) = (0 : Int)] (by kernel_rfl) ⟨rfl, rfl, rfl, trivial⟩
def findR (l : List Shf) (b : List Box) (s : List Std) (id : Int) : Int × Int × Int :=
  if checkS l b s ≠ 0 then (0, 0, 1) else if isK b Box.ID id = false then (0, 0, 7) else if (findP id 0 s).1 < 0 then (0, 0, 11)
  else ((s.getD (findP id 0 s).1.toNat default).Shelf, widthI b ((s.getD (findP id 0 s).1.toNat default).Boxes.take (findP id 0 s).2.toNat), 0)
end Go.Sx.T
