/- Contracts of functions of the program, each proved by running its code symbolically (H7). -/
import Derived.Test.YtgnffeajpmniiaaH6
namespace Go.Sx.T
open Go Go.Proofs Go.Sx
set_option maxRecDepth 100000
set_option maxHeartbeats 4000000
set_option linter.unusedVariables false
set_option linter.unusedSimpArgs false
theorem s35 (l : List Shf) (b : List Box) (s m : List Std) : Spec Try.prog 35 [store l b s, stds m] (store l b m) := by
  refine spec_of_good mixed Try.func35 F35_ok (by kernel_rfl) ?_
  refine good_run 18 (obs := [(3 : Nat) = (3 : Nat) ∧ (0 : Nat) + (3 : Nat) ≤ (3 : Nat)]) (by kernel_rfl) (by (first | omega | assumption | exact ⟨rfl, trivial⟩ | simp only [AllP, inK_iff, roomOK_iff, decide_eq_true_eq, Bool.and_eq_true, Bool.or_eq_true, Bool.not_eq_true', decide_eq_false_iff_not, and_true, true_and]; (first | omega | (and_intros <;> intros <;> (try and_intros) <;> first | omega | assumption | exact trivial)))) ?_
  refine good_fin [List.length l = List.length l ∧ ∀ (i : Nat), i < List.length l → (fun i => Shf.cells (List.getD l i default)) i = (fun i => Shf.cells (List.getD l i default)) i, List.length b = List.length b ∧ ∀ (i : Nat), i < List.length b → (fun i => Box.cells (List.getD b i default)) i = (fun i => Box.cells (List.getD b i default)) i, List.length m = List.length m ∧ ∀ (i : Nat), i < List.length m → (fun i => Std.cells (List.getD m i default)) i = (fun i => Std.cells (List.getD m i default)) i] (by kernel_rfl) ⟨⟨rfl, fun _ _ => rfl⟩, ⟨rfl, fun _ _ => rfl⟩, ⟨rfl, fun _ _ => rfl⟩, trivial⟩
theorem placeL_length {s : List Std} {x0 x1 : Int} {k : Nat} : (placeL s x0 x1 k).length ≤ s.length + 1 := by
  unfold placeL
  split
  · simp
  · rw [List.length_insertIdx]; split <;> omega
/-! Undone. -/
end Go.Sx.T
