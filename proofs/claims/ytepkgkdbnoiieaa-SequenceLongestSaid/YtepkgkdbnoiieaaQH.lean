/- Contracts of functions of the program, each proved by running its code symbolically (QH). -/
import Derived.Test.YtepkgkdbnoiieaaQF
namespace Go.Sx.T
open Go Go.Proofs Go.Sx
set_option maxRecDepth 100000
set_option maxHeartbeats 8000000
set_option linter.unusedVariables false
set_option linter.unusedSimpArgs false
def twoC (c s : Value) (i : Nat) : Value := if i = 0 then c else s
theorem s42 (l : List Int) (hl : l.length ≤ 1000) : Spec Try.prog 42 [ints l] (.int .i64 (msC l.length l).2) := by
  refine spec_of_good mixed Try.func42 F42_ok (by kernel_rfl) ?_
  refine good_run 18 (obs := [(1 : Nat) = (1 : Nat) ∧ (0 : Nat) + (1 : Nat) ≤ (1 : Nat)]) (by kernel_rfl) (by (first | omega | assumption | exact ⟨rfl, trivial⟩ | simp only [AllP, inK_iff, roomOK_iff, decide_eq_true_eq, Bool.and_eq_true, Bool.or_eq_true, Bool.not_eq_true', decide_eq_false_iff_not, and_true, true_and]; (first | omega | (and_intros <;> intros <;> (try and_intros) <;> first | omega | assumption | exact trivial)))) ?_
  refine good_tagCells 1 (t := (28 : Nat)) (mu := true) (cs := [SV.val Value.nilFunc]) (by kernel_rfl) (fun b => ?_)
  refine good_tagCells 0 (t := (3 : Nat)) (mu := true) (cs := [SV.int IntKind.i64 (0 : Int)]) (by kernel_rfl) (fun a => ?_)
  refine good_val 4 1 (Value.pointer (some { block := b, off := (0 : Nat) })) (by kernel_rfl) ?_
  refine good_val 3 0 (Value.pointer (some { block := a, off := (0 : Nat) })) (by kernel_rfl) ?_
  refine good_run 1 (obs := []) (by kernel_rfl) trivial ?_
  refine good_ref 4 1 (Value.pointer (some { block := b, off := (0 : Nat) })) (by kernel_rfl) ?_
  refine good_ref 3 0 (Value.pointer (some { block := a, off := (0 : Nat) })) (by kernel_rfl) ?_
  have hsq : (l.length : Int) * l.length ≤ 1000 * 1000 := Int.mul_le_mul (by omega) (by omega) (by omega) (by omega)
  have hc := s59 (twoC (.pointer (some ⟨b, 0, none⟩)) (.pointer (some ⟨a, 0, none⟩))) l.length l 0 (Nat.le_refl _) hl (Int.le_refl _) (by omega)
  refine good_run 7 (obs := [(1 : Nat) = (1 : Nat) ∧ (0 : Nat) + (1 : Nat) ≤ (1 : Nat)]) (by kernel_rfl) (by (first | omega | assumption | exact ⟨rfl, trivial⟩ | simp only [AllP, inK_iff, roomOK_iff, decide_eq_true_eq, Bool.and_eq_true, Bool.or_eq_true, Bool.not_eq_true', decide_eq_false_iff_not, and_true, true_and]; (first | omega | (and_intros <;> intros <;> (try and_intros) <;> first | omega | assumption | exact trivial)))) ?_
  refine good_callx [1, 0] [0, 1] (hc) (by kernel_rfl) (by kernel_rfl) [SVle (SV.fn (59 : Nat) [SV.val (Value.pointer (some { block := b, off := (0 : Nat) })), SV.val (Value.pointer (some { block := a, off := (0 : Nat) }))]) (SV.fn (59 : FuncId) [SV.val (twoC (Value.pointer (some { block := b, off := (0 : Nat) })) (Value.pointer (some { block := a, off := (0 : Nat) })) (0 : Nat)), SV.val (twoC (Value.pointer (some { block := b, off := (0 : Nat) })) (Value.pointer (some { block := a, off := (0 : Nat) })) (1 : Nat))]), Value.pointer (some { block := b, off := (0 : Nat) }) = twoC (Value.pointer (some { block := b, off := (0 : Nat) })) (Value.pointer (some { block := a, off := (0 : Nat) })) (0 : Nat), (0 : Int) = (0 : Int), Value.pointer (some { block := a, off := (0 : Nat) }) = twoC (Value.pointer (some { block := b, off := (0 : Nat) })) (Value.pointer (some { block := a, off := (0 : Nat) })) ((0 : Nat) + (1 : Nat))] [List.length l = List.length l ∧ ∀ (i : Nat), i < List.length l → (fun i => [SV.int IntKind.i64 (List.getD l i (0 : Int))]) i = (fun i => [SV.int IntKind.i64 (List.getD l i (0 : Int))]) i, SVle (SV.val (Value.pointer (some { block := b, off := (0 : Nat) }))) (SV.val (twoC (Value.pointer (some { block := b, off := (0 : Nat) })) (Value.pointer (some { block := a, off := (0 : Nat) })) (0 : Nat))), SVle (SV.val (Value.pointer (some { block := a, off := (0 : Nat) }))) (SV.val (twoC (Value.pointer (some { block := b, off := (0 : Nat) })) (Value.pointer (some { block := a, off := (0 : Nat) })) (1 : Nat)))] (by kernel_rfl) ⟨?_, ?_, rfl, ?_, trivial⟩ (by kernel_rfl) ⟨⟨rfl, fun _ _ => rfl⟩, ?_, ?_, trivial⟩ ?_
  · exact SVle.refl _
  · rfl
  · rfl
  · exact SVle.refl _
  · exact SVle.refl _
  rintro _ rfl
  refine ⟨⟨rfl, rfl, trivial⟩, ?_⟩
  refine good_run 9 (obs := []) (by kernel_rfl) trivial ?_
  refine good_fin [(0 : Int) + (msC (List.length l) l).snd = (msC (List.length l) l).snd] (by kernel_rfl) ⟨(by omega), trivial⟩
  all_goals skip
  done
end Go.Sx.T
