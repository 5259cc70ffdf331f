/- Contracts of functions of the program, each proved by running its code symbolically (H5). -/
import Derived.Test.YtgnffeajpmniiaaH4
namespace Go.Sx.T
open Go Go.Proofs Go.Sx
set_option maxRecDepth 100000
set_option maxHeartbeats 4000000
set_option linter.unusedVariables false
set_option linter.unusedSimpArgs false
theorem placeL_len {s : List Std} {x0 x1 : Int} {k n : Nat} (hx : ∀ y ∈ s, y.Boxes.length ≤ n) (hk : k ≤ (boxesOf s x1).length) (hb : (boxesOf s x1).length ≤ n) : ∀ y ∈ placeL s x0 x1 k, y.Boxes.length ≤ n + 1 := by
  intro y hy
  unfold placeL at hy
  split at hy
  · rcases List.mem_or_eq_of_mem_set hy with h | h
    · have := hx y h; omega
    · subst h
      show ((boxesOf s x1).insertIdx k x0).length ≤ n + 1
      rw [List.length_insertIdx, if_pos hk]; omega
  · rcases (List.mem_insertIdx (posK_le s Std.Shelf x1)).1 hy with h | h
    · subst h
      show 1 ≤ n + 1
      omega
    · have := hx y h; omega
theorem placeR_len {l : List Shf} {b : List Box} {s : List Std} {x0 x1 x2 : Int} {n : Nat} (hx : ∀ y ∈ s, y.Boxes.length ≤ n) : ∀ y ∈ (placeR l b s x0 x1 x2).1, y.Boxes.length ≤ n + 1 := by
  intro y hy
  unfold placeR placeQ at hy
  split at hy
  · cases hy
  split at hy
  · cases hy
  split at hy
  · cases hy
  split at hy
  · cases hy
  rename_i hin
  split at hy
  · cases hy
  split at hy
  · cases hy
  have hin' : inB x2 0 (boxesOf s x1).length = true := by simpa using hin
  simp only [inB, Bool.and_eq_true, decide_eq_true_eq] at hin'
  refine placeL_len hx (by omega) ?_ y hy
  unfold boxesOf
  rcases isK_cases s Std.Shelf x1 with ⟨_, e, _⟩ | ⟨k, hk, _, e, _⟩
  · rw [e]; exact Nat.zero_le _
  · rw [e]; exact hx _ (getD_mem s default k hk)
theorem removeR_len {l : List Shf} {b : List Box} {s : List Std} {id : Int} {n : Nat} (hx : ∀ y ∈ s, y.Boxes.length ≤ n) : ∀ y ∈ (removeR l b s id).1, y.Boxes.length ≤ n := by
  intro y hy
  unfold removeR at hy
  split at hy
  · cases hy
  split at hy
  · cases hy
  split at hy
  · cases hy
  rename_i hf
  rcases findP_cases id s 0 with ⟨g1, g2⟩ | ⟨i, k, hi, hk, g1, g2, g3, g4⟩
  · rw [g1] at hf; exact absurd (by decide) hf
  · rw [Nat.zero_add] at g1
    rw [g1] at hy
    have hy' : y ∈ removeL s i k := hy
    unfold removeL at hy'
    split at hy'
    · exact hx y (List.mem_of_mem_eraseIdx hy')
    · rcases List.mem_or_eq_of_mem_set hy' with h | h
      · exact hx y h
      · subst h
        show ((s.getD i default).Boxes.eraseIdx k).length ≤ n
        have := hx _ (getD_mem s default i hi)
        rw [List.length_eraseIdx, if_pos hk]; omega
/-! Places. -/
theorem s7 (l : List Shf) (b : List Box) (s : List Std) (y0 y1 y2 id : Int) : Spec Try.prog 7 [store l b s, .agg [.int .i64 y0, .int .i64 y1, .int .i64 y2], .int .i64 id] (.bool true) := by
  refine spec_of_good mixed Try.func7 F7_ok (by kernel_rfl) ?_
  by_cases hf : fewL l b s = true
  · obtain ⟨wl, wb, wc, ws, wx⟩ := few_wide hf
    obtain ⟨_, _, _, v4, v5⟩ := fewL_spec hf
    have vs : s.length ≤ 100 := by omega
    have vx : ∀ y ∈ s, y.Boxes.length ≤ 1000 := fun y hy => by have := v5 y hy; omega
    have s11a : Spec Try.prog 11 [store l b s] (.bool true) := hf ▸ s11 l b s
    have s17a := s17 l b s wl wb wc ws wx
    have s28c := s28 l b s y0 y1 y2 vs vx
    have s29c := s29 l b s y0 y1 y2 vs vx
    have s30c := s30 l b s id vs vx
    have s31c := s31 l b s id vs vx
    have hp : ∀ y ∈ (placeR l b s y0 y1 y2).1, y.Boxes.length ≤ 100000 := fun y hy => by have := placeR_len vx y hy; omega
    have hr : ∀ y ∈ (removeR l b s id).1, y.Boxes.length ≤ 100000 := fun y hy => by have := removeR_len vx y hy; omega
    generalize placeR l b s y0 y1 y2 = P at *
    generalize removeR l b s id = R at *
    have s32a : Spec Try.prog 32 [stds P.1, stds P.1] (.bool true) := by
      have := s32 P.1 P.1 hp
      rwa [decide_eq_true rfl] at this
    have s32b : Spec Try.prog 32 [stds R.1, stds R.1] (.bool true) := by
      have := s32 R.1 R.1 hr
      rwa [decide_eq_true rfl] at this
    refine good_run 10 (obs := []) (by kernel_rfl) trivial ?_
    refine good_call (c := True) (by kernel_rfl) (fun _ => SVles.refl _) (fun _ => s10) (by kernel_rfl) ?_
    refine good_run 3 (obs := []) (by kernel_rfl) trivial ?_
    refine good_cond false (by kernel_rfl) (fun h => nomatch h) (fun _ => ?_)
    refine good_run 5 (obs := [(0 : Nat) + (3 : Nat) ≤ (3 : Nat)]) (by kernel_rfl) (by (first | omega | assumption | exact ⟨rfl, trivial⟩ | simp only [AllP, inK_iff, roomOK_iff, decide_eq_true_eq, Bool.and_eq_true, Bool.or_eq_true, Bool.not_eq_true', decide_eq_false_iff_not, and_true, true_and]; (first | omega | (and_intros <;> intros <;> (try and_intros) <;> first | omega | assumption | exact trivial)))) ?_
    refine good_call (c := True) (by kernel_rfl) (fun _ => SVles.refl _) (fun _ => s11a) (by kernel_rfl) ?_
    refine good_run 3 (obs := []) (by kernel_rfl) trivial ?_
    refine good_cond false (by kernel_rfl) (fun h => nomatch h) (fun _ => ?_)
    refine good_run 4 (obs := [(0 : Nat) + (3 : Nat) ≤ (3 : Nat)]) (by kernel_rfl) (by (first | omega | assumption | exact ⟨rfl, trivial⟩ | simp only [AllP, inK_iff, roomOK_iff, decide_eq_true_eq, Bool.and_eq_true, Bool.or_eq_true, Bool.not_eq_true', decide_eq_false_iff_not, and_true, true_and]; (first | omega | (and_intros <;> intros <;> (try and_intros) <;> first | omega | assumption | exact trivial)))) ?_
    refine good_call (c := True) (by kernel_rfl) (fun _ => SVles.refl _) (fun _ => s17a) (by kernel_rfl) ?_
    refine good_run 15 (obs := [(0 : Nat) + (3 : Nat) ≤ (3 : Nat)]) (by kernel_rfl) (by (first | omega | assumption | exact ⟨rfl, trivial⟩ | simp only [AllP, inK_iff, roomOK_iff, decide_eq_true_eq, Bool.and_eq_true, Bool.or_eq_true, Bool.not_eq_true', decide_eq_false_iff_not, and_true, true_and]; (first | omega | (and_intros <;> intros <;> (try and_intros) <;> first | omega | assumption | exact trivial)))) ?_
    refine good_call (c := True) (by kernel_rfl) (fun _ => SVles.refl _) (fun _ => s28c) (by kernel_rfl) ?_
    refine good_run 16 (obs := [(0 : Nat) + (3 : Nat) ≤ (3 : Nat)]) (by kernel_rfl) (by (first | omega | assumption | exact ⟨rfl, trivial⟩ | simp only [AllP, inK_iff, roomOK_iff, decide_eq_true_eq, Bool.and_eq_true, Bool.or_eq_true, Bool.not_eq_true', decide_eq_false_iff_not, and_true, true_and]; (first | omega | (and_intros <;> intros <;> (try and_intros) <;> first | omega | assumption | exact trivial)))) ?_
    refine good_call (c := True) (by kernel_rfl) (fun _ => SVles.refl _) (fun _ => s29c) (by kernel_rfl) ?_
    refine good_run 10 (obs := [(0 : Nat) + (3 : Nat) ≤ (3 : Nat)]) (by kernel_rfl) (by (first | omega | assumption | exact ⟨rfl, trivial⟩ | simp only [AllP, inK_iff, roomOK_iff, decide_eq_true_eq, Bool.and_eq_true, Bool.or_eq_true, Bool.not_eq_true', decide_eq_false_iff_not, and_true, true_and]; (first | omega | (and_intros <;> intros <;> (try and_intros) <;> first | omega | assumption | exact trivial)))) ?_
    refine good_call (c := True) (by kernel_rfl) (fun _ => SVles.refl _) (fun _ => s17a) (by kernel_rfl) ?_
    refine good_run 15 (obs := []) (by kernel_rfl) trivial ?_
    refine good_call (c := True) (by kernel_rfl) (fun _ => SVles.refl _) (fun _ => s30c) (by kernel_rfl) ?_
    refine good_run 16 (obs := []) (by kernel_rfl) trivial ?_
    refine good_call (c := True) (by kernel_rfl) (fun _ => SVles.refl _) (fun _ => s31c) (by kernel_rfl) ?_
    refine good_run 11 (obs := []) (by kernel_rfl) trivial ?_
    refine good_call (c := True) (by kernel_rfl) (fun _ => SVles.refl _) (fun _ => s32a) (by kernel_rfl) ?_
    refine good_run 9 (obs := []) (by kernel_rfl) trivial ?_
    refine good_call (c := (true && decide (P.snd = P.snd)) = true ∧ True) (by kernel_rfl) (fun _ => SVles.refl _) (fun _ => s32b) (by kernel_rfl) ?_
    refine good_run 11 (obs := []) (by kernel_rfl) trivial ?_
    refine good_fin [(true && decide (P.snd = P.snd) && true && decide (R.snd = R.snd)) = true] (by kernel_rfl) ⟨?_, trivial⟩
    simp
  · have hf' : fewL l b s = false := by simpa using hf
    have s11a : Spec Try.prog 11 [store l b s] (.bool false) := hf' ▸ s11 l b s
    refine good_run 10 (obs := []) (by kernel_rfl) trivial ?_
    refine good_call (c := True) (by kernel_rfl) (fun _ => SVles.refl _) (fun _ => s10) (by kernel_rfl) ?_
    refine good_run 3 (obs := []) (by kernel_rfl) trivial ?_
    refine good_cond false (by kernel_rfl) (fun h => nomatch h) (fun _ => ?_)
    refine good_run 5 (obs := [(0 : Nat) + (3 : Nat) ≤ (3 : Nat)]) (by kernel_rfl) (by (first | omega | assumption | exact ⟨rfl, trivial⟩ | simp only [AllP, inK_iff, roomOK_iff, decide_eq_true_eq, Bool.and_eq_true, Bool.or_eq_true, Bool.not_eq_true', decide_eq_false_iff_not, and_true, true_and]; (first | omega | (and_intros <;> intros <;> (try and_intros) <;> first | omega | assumption | exact trivial)))) ?_
    refine good_call (c := True) (by kernel_rfl) (fun _ => SVles.refl _) (fun _ => s11a) (by kernel_rfl) ?_
    refine good_run 3 (obs := []) (by kernel_rfl) trivial ?_
    refine good_cond true (by kernel_rfl) (fun _ => ?_) (fun h => nomatch h)
    refine good_run 7 (obs := []) (by kernel_rfl) trivial ?_
    refine good_fin [true = true] (by kernel_rfl) ⟨rfl, trivial⟩
end Go.Sx.T
