/- Contracts of functions of the program, each proved by running its code symbolically (HU). -/
import Derived.Test.YtgnffeajpmniiaaHT
namespace Go.Sx.T
open Go Go.Proofs Go.Sx
set_option maxRecDepth 100000
set_option maxHeartbeats 4000000
set_option linter.unusedVariables false
set_option linter.unusedSimpArgs false
structure Wide (l : List Shf) (b : List Box) (s : List Std) : Prop where
  hl : l.length ≤ 100000
  hb : b.length ≤ 100000
  hc : ∀ x ∈ b, x.Contents.length ≤ 100000
  hs : s.length ≤ 100000
  hx : ∀ y ∈ s, y.Boxes.length ≤ 100000
theorem few_wide {l : List Shf} {b : List Box} {s : List Std} (h : fewL l b s = true) : Wide l b s := by
  obtain ⟨h1, h2, h3, h4, h5⟩ := fewL_spec h
  exact ⟨by omega, by omega, fun x hx => by have := h3 x hx; omega, by omega, fun y hy => by have := h5 y hy; omega⟩
/-! Finds. -/
/-! Checks. -/
theorem s3 (l : List Shf) (b : List Box) (s : List Std) : Spec Try.prog 3 [store l b s] (.bool true) := by
  refine spec_of_good mixed Try.func3 F3_ok (by kernel_rfl) ?_
  by_cases hf : fewL l b s = true
  · obtain ⟨wl, wb, wc, ws, wx⟩ := few_wide hf
    have s11a : Spec Try.prog 11 [store l b s] (.bool true) := hf ▸ s11 l b s
    have s13a : Spec Try.prog 13 [shfs l] (shfs l) := (s13 l.length _ wl).spec
    refine good_run 9 (obs := []) (by kernel_rfl) trivial ?_
    refine good_call (c := True) (by kernel_rfl) (fun _ => SVles.refl _) (fun _ => s10) (by kernel_rfl) ?_
    refine good_run 3 (obs := []) (by kernel_rfl) trivial ?_
    refine good_cond false (by kernel_rfl) (fun h => nomatch h) (fun _ => ?_)
    refine good_run 5 (obs := [(0 : Nat) + (3 : Nat) ≤ (3 : Nat)]) (by kernel_rfl) (by (first | omega | assumption | exact ⟨rfl, trivial⟩ | simp only [AllP, inK_iff, roomOK_iff, decide_eq_true_eq, Bool.and_eq_true, Bool.or_eq_true, Bool.not_eq_true', decide_eq_false_iff_not, and_true, true_and]; (first | omega | (and_intros <;> intros <;> (try and_intros) <;> first | omega | assumption | exact trivial)))) ?_
    refine good_call (c := True) (by kernel_rfl) (fun _ => SVles.refl _) (fun _ => s11a) (by kernel_rfl) ?_
    refine good_run 9 (obs := []) (by kernel_rfl) trivial ?_
    refine good_cond (!true && !decide ((↑(List.length l) : Int) = (33 : Int))) (by kernel_rfl) (fun hc1 => ?_) (fun hc1 => ?_)
    · simp at hc1
    · refine good_run 6 (obs := []) (by kernel_rfl) trivial ?_
      refine good_call (c := True) (by kernel_rfl) (fun _ => SVles.refl _) (fun _ => s13a) (by kernel_rfl) ?_
      refine good_call (c := True) (by kernel_rfl) (fun _ => SVles.refl _) (fun _ => s12 (l)) (by kernel_rfl) ?_
      refine good_run 2 (obs := []) (by kernel_rfl) trivial ?_
      refine good_call (c := True) (by kernel_rfl) (fun _ => SVles.refl _) (fun _ => s14 (l)) (by kernel_rfl) ?_
      refine good_run 3 (obs := []) (by kernel_rfl) trivial ?_
      refine good_cond (!decide (shelvesC l = shelvesC l)) (by kernel_rfl) (fun hc2 => ?_) (fun hc2 => ?_)
      · simp at hc2
      · refine good_run 4 (obs := [True → (0 : Nat) + (3 : Nat) ≤ (3 : Nat)]) (by kernel_rfl) (by (first | omega | assumption | exact ⟨rfl, trivial⟩ | simp only [AllP, inK_iff, roomOK_iff, decide_eq_true_eq, Bool.and_eq_true, Bool.or_eq_true, Bool.not_eq_true', decide_eq_false_iff_not, and_true, true_and]; (first | omega | (and_intros <;> intros <;> (try and_intros) <;> first | omega | assumption | exact trivial)))) ?_
        refine good_call (c := True) (by kernel_rfl) (fun _ => SVles.refl _) (fun _ => s11a) (by kernel_rfl) ?_
        refine good_run 3 (obs := [(!true) = false ∧ True → (0 : Nat) + (3 : Nat) ≤ (3 : Nat)]) (by kernel_rfl) (by (first | omega | assumption | exact ⟨rfl, trivial⟩ | simp only [AllP, inK_iff, roomOK_iff, decide_eq_true_eq, Bool.and_eq_true, Bool.or_eq_true, Bool.not_eq_true', decide_eq_false_iff_not, and_true, true_and]; (first | omega | (and_intros <;> intros <;> (try and_intros) <;> first | omega | assumption | exact trivial)))) ?_
        refine good_call (c := (!true) = false ∧ True) (by kernel_rfl) (fun _ => SVles.refl _) (fun _ => s15 (l) (b) (s) (by (first | omega | assumption | exact ⟨rfl, trivial⟩ | simp only [AllP, inK_iff, roomOK_iff, decide_eq_true_eq, Bool.and_eq_true, Bool.or_eq_true, Bool.not_eq_true', decide_eq_false_iff_not, and_true, true_and]; (first | omega | (and_intros <;> intros <;> (try and_intros) <;> first | omega | assumption | exact trivial)))) (by (first | omega | assumption | exact ⟨rfl, trivial⟩ | simp only [AllP, inK_iff, roomOK_iff, decide_eq_true_eq, Bool.and_eq_true, Bool.or_eq_true, Bool.not_eq_true', decide_eq_false_iff_not, and_true, true_and]; (first | omega | (and_intros <;> intros <;> (try and_intros) <;> first | omega | assumption | exact trivial)))) (by (first | omega | assumption | exact ⟨rfl, trivial⟩ | simp only [AllP, inK_iff, roomOK_iff, decide_eq_true_eq, Bool.and_eq_true, Bool.or_eq_true, Bool.not_eq_true', decide_eq_false_iff_not, and_true, true_and]; (first | omega | (and_intros <;> intros <;> (try and_intros) <;> first | omega | assumption | exact trivial)))) (by (first | omega | assumption | exact ⟨rfl, trivial⟩ | simp only [AllP, inK_iff, roomOK_iff, decide_eq_true_eq, Bool.and_eq_true, Bool.or_eq_true, Bool.not_eq_true', decide_eq_false_iff_not, and_true, true_and]; (first | omega | (and_intros <;> intros <;> (try and_intros) <;> first | omega | assumption | exact trivial)))) (by (first | omega | assumption | exact ⟨rfl, trivial⟩ | simp only [AllP, inK_iff, roomOK_iff, decide_eq_true_eq, Bool.and_eq_true, Bool.or_eq_true, Bool.not_eq_true', decide_eq_false_iff_not, and_true, true_and]; (first | omega | (and_intros <;> intros <;> (try and_intros) <;> first | omega | assumption | exact trivial))))) (by kernel_rfl) ?_
        refine good_run 6 (obs := []) (by kernel_rfl) trivial ?_
        refine good_call (c := (!true) = false ∧ True) (by kernel_rfl) (fun _ => SVles.refl _) (fun _ => s16 (l) (b) (s) (by (first | omega | assumption | exact ⟨rfl, trivial⟩ | simp only [AllP, inK_iff, roomOK_iff, decide_eq_true_eq, Bool.and_eq_true, Bool.or_eq_true, Bool.not_eq_true', decide_eq_false_iff_not, and_true, true_and]; (first | omega | (and_intros <;> intros <;> (try and_intros) <;> first | omega | assumption | exact trivial)))) (by (first | omega | assumption | exact ⟨rfl, trivial⟩ | simp only [AllP, inK_iff, roomOK_iff, decide_eq_true_eq, Bool.and_eq_true, Bool.or_eq_true, Bool.not_eq_true', decide_eq_false_iff_not, and_true, true_and]; (first | omega | (and_intros <;> intros <;> (try and_intros) <;> first | omega | assumption | exact trivial))))) (by kernel_rfl) ?_
        refine good_run 6 (obs := []) (by kernel_rfl) trivial ?_
        refine good_fin [(!true || decide (checkS l b s = checkS l b s)) = true] (by kernel_rfl) ⟨?_, trivial⟩
        simp
  · have hf' : fewL l b s = false := by simpa using hf
    have s11a : Spec Try.prog 11 [store l b s] (.bool false) := hf' ▸ s11 l b s
    refine good_run 9 (obs := []) (by kernel_rfl) trivial ?_
    refine good_call (c := True) (by kernel_rfl) (fun _ => SVles.refl _) (fun _ => s10) (by kernel_rfl) ?_
    refine good_run 3 (obs := []) (by kernel_rfl) trivial ?_
    refine good_cond false (by kernel_rfl) (fun h => nomatch h) (fun _ => ?_)
    refine good_run 5 (obs := [(0 : Nat) + (3 : Nat) ≤ (3 : Nat)]) (by kernel_rfl) (by (first | omega | assumption | exact ⟨rfl, trivial⟩ | simp only [AllP, inK_iff, roomOK_iff, decide_eq_true_eq, Bool.and_eq_true, Bool.or_eq_true, Bool.not_eq_true', decide_eq_false_iff_not, and_true, true_and]; (first | omega | (and_intros <;> intros <;> (try and_intros) <;> first | omega | assumption | exact trivial)))) ?_
    refine good_call (c := True) (by kernel_rfl) (fun _ => SVles.refl _) (fun _ => s11a) (by kernel_rfl) ?_
    refine good_run 9 (obs := []) (by kernel_rfl) trivial ?_
    refine good_cond (!false && !decide ((↑(List.length l) : Int) = (33 : Int))) (by kernel_rfl) (fun hc1 => ?_) (fun hc1 => ?_)
    · refine good_run 7 (obs := []) (by kernel_rfl) trivial ?_
      refine good_fin [true = true] (by kernel_rfl) ⟨rfl, trivial⟩
    · have wl : l.length ≤ 100000 := by
        simp at hc1; omega
      have s13a : Spec Try.prog 13 [shfs l] (shfs l) := (s13 l.length _ wl).spec
      refine good_run 6 (obs := []) (by kernel_rfl) trivial ?_
      refine good_call (c := True) (by kernel_rfl) (fun _ => SVles.refl _) (fun _ => s13a) (by kernel_rfl) ?_
      refine good_call (c := True) (by kernel_rfl) (fun _ => SVles.refl _) (fun _ => s12 (l)) (by kernel_rfl) ?_
      refine good_run 2 (obs := []) (by kernel_rfl) trivial ?_
      refine good_call (c := True) (by kernel_rfl) (fun _ => SVles.refl _) (fun _ => s14 (l)) (by kernel_rfl) ?_
      refine good_run 3 (obs := []) (by kernel_rfl) trivial ?_
      refine good_cond (!decide (shelvesC l = shelvesC l)) (by kernel_rfl) (fun hc2 => ?_) (fun hc2 => ?_)
      · simp at hc2
      · refine good_run 4 (obs := [True → (0 : Nat) + (3 : Nat) ≤ (3 : Nat)]) (by kernel_rfl) (by (first | omega | assumption | exact ⟨rfl, trivial⟩ | simp only [AllP, inK_iff, roomOK_iff, decide_eq_true_eq, Bool.and_eq_true, Bool.or_eq_true, Bool.not_eq_true', decide_eq_false_iff_not, and_true, true_and]; (first | omega | (and_intros <;> intros <;> (try and_intros) <;> first | omega | assumption | exact trivial)))) ?_
        refine good_call (c := True) (by kernel_rfl) (fun _ => SVles.refl _) (fun _ => s11a) (by kernel_rfl) ?_
        refine good_run 3 (obs := [(!false) = false ∧ True → (0 : Nat) + (3 : Nat) ≤ (3 : Nat)]) (by kernel_rfl) (by (first | omega | assumption | exact ⟨rfl, trivial⟩ | simp only [AllP, inK_iff, roomOK_iff, decide_eq_true_eq, Bool.and_eq_true, Bool.or_eq_true, Bool.not_eq_true', decide_eq_false_iff_not, and_true, true_and]; (first | omega | (and_intros <;> intros <;> (try and_intros) <;> first | omega | assumption | exact trivial)))) ?_
        refine good_call (c := (!false) = false ∧ True) (by kernel_rfl) (fun _ => SVles.refl _) (fun _ => s15 (l) (b) (s) ?_ ?_ ?_ ?_ ?_) (by kernel_rfl) ?_
        · rename_i h; exact absurd h.1 (by decide)
        · rename_i h; exact absurd h.1 (by decide)
        · rename_i h; exact absurd h.1 (by decide)
        · rename_i h; exact absurd h.1 (by decide)
        · rename_i h; exact absurd h.1 (by decide)
        refine good_run 6 (obs := []) (by kernel_rfl) trivial ?_
        refine good_call (c := (!false) = false ∧ True) (by kernel_rfl) (fun _ => SVles.refl _) (fun _ => s16 (l) (b) (s) ?_ ?_) (by kernel_rfl) ?_
        · rename_i h; exact absurd h.1 (by decide)
        · rename_i h; exact absurd h.1 (by decide)
        refine good_run 6 (obs := []) (by kernel_rfl) trivial ?_
        refine good_fin [(!false || decide (checkS l b s = checkS l b s)) = true] (by kernel_rfl) ⟨(by rfl), trivial⟩
end Go.Sx.T
