/- Contracts of functions of the program, each proved by running its code symbolically (H7). -/
import Derived.Test.YtgnffeajpmniiaaH6
namespace Go.Sx.T
open Go Go.Proofs Go.Sx
set_option maxRecDepth 100000
set_option maxHeartbeats 4000000
set_option linter.unusedVariables false
set_option linter.unusedSimpArgs false
theorem s34 (c : Box) (y0 y1 y2 : Int) : Spec Try.prog 34 [c.sv, .ref [.int .i64 y0, .int .i64 y1, .int .i64 y2] 0] (.bool (idK Box.ID y0 c)) := by
  refine spec_of_good mixed Try.func34 F34_ok (by kernel_rfl) ?_
  refine good_run 17 (obs := [(0 : Int) ≤ (0 : Int) ∧ (0 : Int) < (3 : Int)]) (by kernel_rfl) (by (first | omega | assumption | exact ⟨rfl, trivial⟩ | simp only [AllP, inK_iff, roomOK_iff, decide_eq_true_eq, Bool.and_eq_true, Bool.or_eq_true, Bool.not_eq_true', decide_eq_false_iff_not, and_true, true_and]; (first | omega | (and_intros <;> intros <;> (try and_intros) <;> first | omega | assumption | exact trivial)))) ?_
  refine good_fin [decide (c.ID = y0) = idK Box.ID y0 c] (by kernel_rfl) ⟨(by rfl), trivial⟩
theorem s24c (b : List Box) (y0 y1 y2 : Int) : Spec Try.prog 24 [boxes b, .fn 34 [.ref [.int .i64 y0, .int .i64 y1, .int .i64 y2] 0]] (.int .i64 (findI b (idK Box.ID y0))) := s24 b 34 _ (idK Box.ID y0) (fun c => s34 c y0 y1 y2)
theorem s35 (l : List Shf) (b : List Box) (s m : List Std) : Spec Try.prog 35 [store l b s, stds m] (store l b m) := by
  refine spec_of_good mixed Try.func35 F35_ok (by kernel_rfl) ?_
  refine good_run 18 (obs := [(3 : Nat) = (3 : Nat) ∧ (0 : Nat) + (3 : Nat) ≤ (3 : Nat)]) (by kernel_rfl) (by (first | omega | assumption | exact ⟨rfl, trivial⟩ | simp only [AllP, inK_iff, roomOK_iff, decide_eq_true_eq, Bool.and_eq_true, Bool.or_eq_true, Bool.not_eq_true', decide_eq_false_iff_not, and_true, true_and]; (first | omega | (and_intros <;> intros <;> (try and_intros) <;> first | omega | assumption | exact trivial)))) ?_
  refine good_fin [List.length l = List.length l ∧ ∀ (i : Nat), i < List.length l → (fun i => Shf.cells (List.getD l i default)) i = (fun i => Shf.cells (List.getD l i default)) i, List.length b = List.length b ∧ ∀ (i : Nat), i < List.length b → (fun i => Box.cells (List.getD b i default)) i = (fun i => Box.cells (List.getD b i default)) i, List.length m = List.length m ∧ ∀ (i : Nat), i < List.length m → (fun i => Std.cells (List.getD m i default)) i = (fun i => Std.cells (List.getD m i default)) i] (by kernel_rfl) ⟨⟨rfl, fun _ _ => rfl⟩, ⟨rfl, fun _ _ => rfl⟩, ⟨rfl, fun _ _ => rfl⟩, trivial⟩
theorem placeL_length {s : List Std} {x0 x1 : Int} {k : Nat} : (placeL s x0 x1 k).length ≤ s.length + 1 := by
  unfold placeL
  split
  · simp
  · rw [List.length_insertIdx]; split <;> omega
/-! Undone. -/
theorem s8 (l : List Shf) (b : List Box) (s : List Std) (y0 y1 y2 : Int) : Spec Try.prog 8 [store l b s, .agg [.int .i64 y0, .int .i64 y1, .int .i64 y2]] (.bool true) := by
  refine spec_of_good mixed Try.func8 F8_ok (by kernel_rfl) ?_
  by_cases hf : fewL l b s = true
  · obtain ⟨wl, wb, wc, ws, wx⟩ := few_wide hf
    obtain ⟨_, _, _, v4, v5⟩ := fewL_spec hf
    have vs : s.length ≤ 100 := by omega
    have vx : ∀ y ∈ s, y.Boxes.length ≤ 1000 := fun y hy => by have := v5 y hy; omega
    have s11a : Spec Try.prog 11 [store l b s] (.bool true) := hf ▸ s11 l b s
    have s17a := s17 l b s wl wb wc ws wx
    have s28c := s28 l b s y0 y1 y2 vs vx
    rcases placeR_cases l b s y0 y1 y2 with ⟨h1, h2⟩ | ⟨hC, hP⟩
    · rw [h2] at s28c
      refine good_run 10 (obs := []) (by kernel_rfl) trivial ?_
      refine good_call (c := True) (by kernel_rfl) (fun _ => SVles.refl _) (fun _ => s10) (by kernel_rfl) ?_
      refine good_run 3 (obs := []) (by kernel_rfl) trivial ?_
      refine good_cond false (by kernel_rfl) (fun h => nomatch h) (fun _ => ?_)
      refine good_run 5 (obs := [(0 : Nat) + (3 : Nat) ≤ (3 : Nat)]) (by kernel_rfl) (by (first | omega | assumption | exact ⟨rfl, trivial⟩ | simp only [AllP, inK_iff, roomOK_iff, decide_eq_true_eq, Bool.and_eq_true, Bool.or_eq_true, Bool.not_eq_true', decide_eq_false_iff_not, and_true, true_and]; (first | omega | (and_intros <;> intros <;> (try and_intros) <;> first | omega | assumption | exact trivial)))) ?_
      refine good_call (c := True) (by kernel_rfl) (fun _ => SVles.refl _) (fun _ => s11a) (by kernel_rfl) ?_
      refine good_run 3 (obs := []) (by kernel_rfl) trivial ?_
      refine good_cond false (by kernel_rfl) (fun h => nomatch h) (fun _ => ?_)
      refine good_run 4 (obs := [(0 : Nat) + (3 : Nat) ≤ (3 : Nat)]) (by kernel_rfl) (by (first | omega | assumption | exact ⟨rfl, trivial⟩ | simp only [AllP, inK_iff, roomOK_iff, decide_eq_true_eq, Bool.and_eq_true, Bool.or_eq_true, Bool.not_eq_true', decide_eq_false_iff_not, and_true, true_and]; (first | omega | (and_intros <;> intros <;> (try and_intros) <;> first | omega | assumption | exact trivial)))) ?_
      refine good_call (c := True) (by kernel_rfl) (fun _ => SVles.refl _) (fun _ => s17a) (by kernel_rfl) ?_
      refine good_run 15 (obs := [(0 : Nat) + (3 : Nat) ≤ (3 : Nat)]) (by kernel_rfl) (by (first | omega | assumption | exact ⟨rfl, trivial⟩ | simp only [AllP, inK_iff, roomOK_iff, decide_eq_true_eq, Bool.and_eq_true, Bool.or_eq_true, Bool.not_eq_true', decide_eq_false_iff_not, and_true, true_and]; (first | omega | (and_intros <;> intros <;> (try and_intros) <;> first | omega | assumption | exact trivial)))) ?_
      refine good_call (c := True) (by kernel_rfl) (fun _ => SVles.refl _) (fun _ => s28c) (by kernel_rfl) ?_
      refine good_run 14 (obs := []) (by kernel_rfl) trivial ?_
      refine good_cond (!decide ((placeR l b s y0 y1 y2).snd = (0 : Int))) (by kernel_rfl) (fun hc1 => ?_) (fun hc1 => ?_)
      · refine good_run 10 (obs := []) (by kernel_rfl) trivial ?_
        refine good_fin [decide ((0 : Int) = (0 : Int)) = true] (by kernel_rfl) ⟨(by rfl), trivial⟩
      · simp only [Bool.not_eq_false', decide_eq_true_eq] at hc1
        exact absurd hc1 h1
    · have hR := right_of hC.c
      have hm : ∀ y ∈ placeL s y0 y1 y2.toNat, y.Boxes.length ≤ 1000 := by
        have h3 := placeR_len (l := l) (b := b) (x0 := y0) (x1 := y1) (x2 := y2) v5
        rw [hP] at h3
        exact fun y hy => by have := h3 y hy; omega
      have hlen := placeL_length (s := s) (x0 := y0) (x1 := y1) (k := y2.toNat)
      rw [hP] at s28c
      have hpc := place_check hC
      obtain ⟨hr1, hr2⟩ := place_room hC
      have hpr := place_remove hC
      have hlx := atK_len hR.okl y1
      have hrb := roomI_bound hR.wb wx hlx.1 hlx.2
      have hwx := wOK_at hR.wb y0
      generalize placeL s y0 y1 y2.toNat = m at *
      have m1 : m.length ≤ 100000 := by omega
      have m2 : ∀ y ∈ m, y.Boxes.length ≤ 100000 := fun y hy => by have := hm y hy; omega
      have s33a : Spec Try.prog 33 [stds m] (stds m) := (s33 m m1 m2).spec
      have s18a := s18 l b s y1 ws wx
      rw [hr1] at s18a
      have s18b := s18 l b m y1 m1 m2
      rw [hr2] at s18b
      have s30a := s30 l b m y0 (by omega) hm
      rw [hpr] at s30a
      have s15a := s15 l b m wl wb wc m1 m2
      rw [hpc] at s15a
      have s32a : Spec Try.prog 32 [stds s, stds s] (.bool true) := by
        have := s32 s s wx
        rwa [decide_eq_true rfl] at this
      rcases isK_cases b Box.ID y0 with ⟨g1, _⟩ | ⟨k, hk, _, g2, g3, _⟩
      · rw [hC.hb] at g1; cases g1
      · have s24b : Spec Try.prog 24 [boxes b, .fn 34 [.ref [.int .i64 y0, .int .i64 y1, .int .i64 y2] 0]] (.int .i64 (k : Int)) := g3 ▸ s24c b y0 y1 y2
        refine good_run 10 (obs := []) (by kernel_rfl) trivial ?_
        refine good_call (c := True) (by kernel_rfl) (fun _ => SVles.refl _) (fun _ => s10) (by kernel_rfl) ?_
        refine good_run 3 (obs := []) (by kernel_rfl) trivial ?_
        refine good_cond false (by kernel_rfl) (fun h => nomatch h) (fun _ => ?_)
        refine good_run 5 (obs := [(0 : Nat) + (3 : Nat) ≤ (3 : Nat)]) (by kernel_rfl) (by (first | omega | assumption | exact ⟨rfl, trivial⟩ | simp only [AllP, inK_iff, roomOK_iff, decide_eq_true_eq, Bool.and_eq_true, Bool.or_eq_true, Bool.not_eq_true', decide_eq_false_iff_not, and_true, true_and]; (first | omega | (and_intros <;> intros <;> (try and_intros) <;> first | omega | assumption | exact trivial)))) ?_
        refine good_call (c := True) (by kernel_rfl) (fun _ => SVles.refl _) (fun _ => s11a) (by kernel_rfl) ?_
        refine good_run 3 (obs := []) (by kernel_rfl) trivial ?_
        refine good_cond false (by kernel_rfl) (fun h => nomatch h) (fun _ => ?_)
        refine good_run 4 (obs := [(0 : Nat) + (3 : Nat) ≤ (3 : Nat)]) (by kernel_rfl) (by (first | omega | assumption | exact ⟨rfl, trivial⟩ | simp only [AllP, inK_iff, roomOK_iff, decide_eq_true_eq, Bool.and_eq_true, Bool.or_eq_true, Bool.not_eq_true', decide_eq_false_iff_not, and_true, true_and]; (first | omega | (and_intros <;> intros <;> (try and_intros) <;> first | omega | assumption | exact trivial)))) ?_
        refine good_call (c := True) (by kernel_rfl) (fun _ => SVles.refl _) (fun _ => s17a) (by kernel_rfl) ?_
        refine good_run 15 (obs := [(0 : Nat) + (3 : Nat) ≤ (3 : Nat)]) (by kernel_rfl) (by (first | omega | assumption | exact ⟨rfl, trivial⟩ | simp only [AllP, inK_iff, roomOK_iff, decide_eq_true_eq, Bool.and_eq_true, Bool.or_eq_true, Bool.not_eq_true', decide_eq_false_iff_not, and_true, true_and]; (first | omega | (and_intros <;> intros <;> (try and_intros) <;> first | omega | assumption | exact trivial)))) ?_
        refine good_call (c := True) (by kernel_rfl) (fun _ => SVles.refl _) (fun _ => s28c) (by kernel_rfl) ?_
        refine good_run 14 (obs := []) (by kernel_rfl) trivial ?_
        refine good_cond false (by kernel_rfl) (fun h => nomatch h) (fun _ => ?_)
        refine good_run 4 (obs := [(0 : Nat) + (3 : Nat) ≤ (3 : Nat)]) (by kernel_rfl) (by (first | omega | assumption | exact ⟨rfl, trivial⟩ | simp only [AllP, inK_iff, roomOK_iff, decide_eq_true_eq, Bool.and_eq_true, Bool.or_eq_true, Bool.not_eq_true', decide_eq_false_iff_not, and_true, true_and]; (first | omega | (and_intros <;> intros <;> (try and_intros) <;> first | omega | assumption | exact trivial)))) ?_
        refine good_call (c := True) (by kernel_rfl) (fun _ => SVles.refl _) (fun _ => s17a) (by kernel_rfl) ?_
        refine good_run 16 (obs := [(0 : Int) ≤ (1 : Int) ∧ (1 : Int) < (3 : Int)]) (by kernel_rfl) (by (first | omega | assumption | exact ⟨rfl, trivial⟩ | simp only [AllP, inK_iff, roomOK_iff, decide_eq_true_eq, Bool.and_eq_true, Bool.or_eq_true, Bool.not_eq_true', decide_eq_false_iff_not, and_true, true_and]; (first | omega | (and_intros <;> intros <;> (try and_intros) <;> first | omega | assumption | exact trivial)))) ?_
        refine good_call (c := True) (by kernel_rfl) (fun _ => SVles.refl _) (fun _ => s18a) (by kernel_rfl) ?_
        refine good_run 12 (obs := []) (by kernel_rfl) trivial ?_
        refine good_call (c := True) (by kernel_rfl) (fun _ => SVles.refl _) (fun _ => s33a) (by kernel_rfl) ?_
        refine good_run 2 (obs := [True → (0 : Int) ≤ (1 : Int) ∧ (1 : Int) < (3 : Int)]) (by kernel_rfl) (by (first | omega | assumption | exact ⟨rfl, trivial⟩ | simp only [AllP, inK_iff, roomOK_iff, decide_eq_true_eq, Bool.and_eq_true, Bool.or_eq_true, Bool.not_eq_true', decide_eq_false_iff_not, and_true, true_and]; (first | omega | (and_intros <;> intros <;> (try and_intros) <;> first | omega | assumption | exact trivial)))) ?_
        refine good_call (c := True) (by kernel_rfl) (fun _ => SVles.refl _) (fun _ => s18b) (by kernel_rfl) ?_
        refine good_run 12 (obs := []) (by kernel_rfl) trivial ?_
        refine good_call (c := True) (by kernel_rfl) (fun _ => SVles.refl _) (fun _ => s33a) (by kernel_rfl) ?_
        refine good_run 2 (obs := [True → (0 : Int) ≤ (0 : Int) ∧ (0 : Int) < (3 : Int)]) (by kernel_rfl) (by (first | omega | assumption | exact ⟨rfl, trivial⟩ | simp only [AllP, inK_iff, roomOK_iff, decide_eq_true_eq, Bool.and_eq_true, Bool.or_eq_true, Bool.not_eq_true', decide_eq_false_iff_not, and_true, true_and]; (first | omega | (and_intros <;> intros <;> (try and_intros) <;> first | omega | assumption | exact trivial)))) ?_
        refine good_call (c := True) (by kernel_rfl) (fun _ => SVles.refl _) (fun _ => s30a) (by kernel_rfl) ?_
        refine good_run 12 (obs := []) (by kernel_rfl) trivial ?_
        refine good_call (c := True) (by kernel_rfl) (fun _ => SVles.refl _) (fun _ => s24b) (by kernel_rfl) ?_
        refine good_run 7 (obs := [(0 : Nat) + (3 : Nat) ≤ (3 : Nat)]) (by kernel_rfl) (by (first | omega | assumption | exact ⟨rfl, trivial⟩ | simp only [AllP, inK_iff, roomOK_iff, decide_eq_true_eq, Bool.and_eq_true, Bool.or_eq_true, Bool.not_eq_true', decide_eq_false_iff_not, and_true, true_and]; (first | omega | (and_intros <;> intros <;> (try and_intros) <;> first | omega | assumption | exact trivial)))) ?_
        refine good_call (c := True) (by kernel_rfl) (fun _ => SVles.refl _) (fun _ => s35 (l) (b) (s) ((m, (0 : Int)).fst)) (by kernel_rfl) ?_
        refine good_call (c := True) (by kernel_rfl) (fun _ => SVles.refl _) (fun _ => s15a) (by kernel_rfl) ?_
        refine good_run 18 (obs := []) (by kernel_rfl) trivial ?_
        refine good_call (c := (decide ((0 : Int) = (0 : Int)) && decide ((0 : Int) = (0 : Int)) && decide ((0 : Int) = (0 : Int)) && decide ((0 : Int) = (0 : Int))) = true ∧ True) (by kernel_rfl) (fun _ => SVles.refl _) (fun _ => s32a) (by kernel_rfl) ?_
        refine good_run 22 (obs := [(decide ((0 : Int) = (0 : Int)) && decide ((0 : Int) = (0 : Int)) && decide ((0 : Int) = (0 : Int)) && decide ((0 : Int) = (0 : Int)) && true && decide ((0 : Int) ≤ (↑k : Int))) = true ∧ True → InK IntKind.i64 (roomI b s (atK l Shf.ID y1) - (roomI b s (atK l Shf.ID y1) - (atK b Box.ID y0).Width)), (decide ((0 : Int) = (0 : Int)) && decide ((0 : Int) = (0 : Int)) && decide ((0 : Int) = (0 : Int)) && decide ((0 : Int) = (0 : Int)) && true && decide ((0 : Int) ≤ (↑k : Int))) = true ∧ True → (5 : Nat) = (5 : Nat) ∧ (0 : Int) ≤ (↑k : Int) ∧ (↑k : Int) < (↑(List.length b) : Int)]) (by kernel_rfl) (by (first | omega | assumption | exact ⟨rfl, trivial⟩ | simp only [AllP, inK_iff, roomOK_iff, decide_eq_true_eq, Bool.and_eq_true, Bool.or_eq_true, Bool.not_eq_true', decide_eq_false_iff_not, and_true, true_and]; (first | omega | (and_intros <;> intros <;> (try and_intros) <;> first | omega | assumption | exact trivial)))) ?_
        refine good_fin [(decide ((0 : Int) = (0 : Int)) && decide ((0 : Int) = (0 : Int)) && decide ((0 : Int) = (0 : Int)) && decide ((0 : Int) = (0 : Int)) && true && decide ((0 : Int) ≤ (↑k : Int)) && decide (roomI b s (atK l Shf.ID y1) - (roomI b s (atK l Shf.ID y1) - (atK b Box.ID y0).Width) = (List.getD b k default).Width)) = true] (by kernel_rfl) ⟨?_, trivial⟩
        rw [decide_eq_true (show (0 : Int) ≤ (k : Int) by omega), decide_eq_true (show roomI b s (atK l Shf.ID y1) - (roomI b s (atK l Shf.ID y1) - (atK b Box.ID y0).Width) = (b.getD k default).Width by rw [g2]; omega)]
        rfl
  · have hf' : fewL l b s = false := by simpa using hf
    have s11a : Spec Try.prog 11 [store l b s] (.bool false) := hf' ▸ s11 l b s
    refine good_run 10 (obs := []) (by kernel_rfl) trivial ?_
    refine good_call (c := True) (by kernel_rfl) (fun _ => SVles.refl _) (fun _ => s10) (by kernel_rfl) ?_
    refine good_run 3 (obs := []) (by kernel_rfl) trivial ?_
    refine good_cond false (by kernel_rfl) (fun h => nomatch h) (fun _ => ?_)
    refine good_run 5 (obs := [(0 : Nat) + (3 : Nat) ≤ (3 : Nat)]) (by kernel_rfl) (by (first | omega | assumption | exact ⟨rfl, trivial⟩ | simp only [AllP, inK_iff, roomOK_iff, decide_eq_true_eq, Bool.and_eq_true, Bool.or_eq_true, Bool.not_eq_true', decide_eq_false_iff_not, and_true, true_and]; (first | omega | (and_intros <;> intros <;> (try and_intros) <;> first | omega | assumption | exact trivial)))) ?_
    refine good_call (c := True) (by kernel_rfl) (fun _ => SVles.refl _) (fun _ => s11a) (by kernel_rfl) ?_
    refine good_run 3 (obs := []) (by kernel_rfl) trivial ?_
    refine good_cond true (by kernel_rfl) (fun _ => ?_) (fun h => nomatch h)
    refine good_run 7 (obs := []) (by kernel_rfl) trivial ?_
    refine good_fin [true = true] (by kernel_rfl) ⟨rfl, trivial⟩
end Go.Sx.T
