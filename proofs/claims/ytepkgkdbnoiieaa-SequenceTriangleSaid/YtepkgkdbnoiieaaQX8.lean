/- Contracts of functions of the program, each proved by running its code symbolically (QX8). -/
import Derived.Test.YtepkgkdbnoiieaaQTP
import Derived.Test.YtepkgkdbnoiieaaQOP
namespace Go.Sx.T
open Go Go.Proofs Go.Sx
set_option maxRecDepth 100000
set_option maxHeartbeats 8000000
set_option linter.unusedVariables false
set_option linter.unusedSimpArgs false
theorem chk_perm {l x : List Int} (h : x.Perm l) (hc : chkL l = 0) : chkL x = 0 := by
  obtain ⟨h1, h2, h3⟩ := chkL_zero.1 hc
  refine chkL_zero.2 ⟨by rw [h.length_eq]; exact h1, ?_, h.nodup_iff.2 h3⟩
  rw [List.any_eq_false] at h2 ⊢
  exact fun y hy => h2 y (h.mem_iff.1 hy)
theorem bet_val {l m : List Int} (hc : chkL l = 0) (hp : l.Perm m) : betL l m = (invC (placesL l m), 0) ∧ 0 ≤ invC (placesL l m) ∧ invC (placesL l m) ≤ (l.length : Int) * l.length := by
  have h1 := (msC_spec l.length (placesL l m) (by rw [placesL_len]; exact Nat.le_refl _)).2.2
  have h2 := msC_len l.length (placesL l m)
  rw [placesL_len, h1] at h2
  refine ⟨?_, h2.2.1, h2.2.2⟩
  unfold betL
  rw [if_pos hc, if_pos (chk_perm hp.symm hc), if_pos (isort_iff.2 hp), h1]
theorem s8 (l : List Int) (a b : List Shift) : Spec Try.prog 8 [ints l, shifts a, shifts b] (.bool true) := by
  refine spec_len 0 rfl (hasBody_of_slim Try.func8 F8_ok) fun hlen0 => ?_
  refine spec_len 1 rfl (hasBody_of_slim Try.func8 F8_ok) fun hlen1 => ?_
  refine spec_len 2 rfl (hasBody_of_slim Try.func8 F8_ok) fun hlen2 => ?_
  refine spec_of_good mixed Try.func8 F8_ok (by kernel_rfl) ?_
  refine good_run 8 (obs := []) (by kernel_rfl) trivial ?_
  refine good_call (c := True) (by kernel_rfl) (fun _ => SVles.refl _) (fun _ => s11) (by kernel_rfl) ?_
  refine good_run 18 (obs := []) (by kernel_rfl) trivial ?_
  refine good_cond (!true || decide ((20 : Int) < (↑(List.length l) : Int)) || decide ((20 : Int) < (↑(List.length a) : Int)) || decide ((20 : Int) < (↑(List.length b) : Int))) (by kernel_rfl) (fun hc1 => ?_) (fun hc1 => ?_)
  · refine good_run 2 (obs := []) (by kernel_rfl) trivial ?_
    refine good_call (c := True) (by kernel_rfl) (fun _ => SVles.refl _) (fun _ => s11) (by kernel_rfl) ?_
    refine good_run 5 (obs := []) (by kernel_rfl) trivial ?_
    refine good_fin [true = true] (by kernel_rfl) ⟨rfl, trivial⟩
  · simp only [Bool.or_eq_false_iff, Bool.not_true, decide_eq_false_iff_not, true_and] at hc1
    have hl : l.length ≤ 100000 := by omega
    refine good_run 4 (obs := []) (by kernel_rfl) trivial ?_
    refine good_own (c := True) (by kernel_rfl) (by kernel_rfl) (SVles.refl _) (s14 (List.length l) (fun i => [SV.int IntKind.i64 (List.getD l i (0 : Int))]) (by (first | omega | assumption | exact ⟨rfl, trivial⟩ | simp only [AllP, inK_iff, roomOK_iff, decide_eq_true_eq, Bool.and_eq_true, Bool.or_eq_true, Bool.not_eq_true', decide_eq_false_iff_not, and_true, true_and]; (first | omega | (and_intros <;> intros <;> (try and_intros) <;> first | omega | assumption | exact trivial))))) ?_
    refine good_run 1 (obs := []) (by kernel_rfl) trivial ?_
    refine good_own (c := True) (by kernel_rfl) (by kernel_rfl) (SVles.refl _) (s27 (List.length a) (fun i => Shift.cells (List.getD a i default)) (by (first | omega | assumption | exact ⟨rfl, trivial⟩ | simp only [AllP, inK_iff, roomOK_iff, decide_eq_true_eq, Bool.and_eq_true, Bool.or_eq_true, Bool.not_eq_true', decide_eq_false_iff_not, and_true, true_and]; (first | omega | (and_intros <;> intros <;> (try and_intros) <;> first | omega | assumption | exact trivial))))) ?_
    refine good_call (c := True) (by kernel_rfl) (fun _ => SVles.refl _) (fun _ => s26 (l) (a) (by (first | omega | assumption | exact ⟨rfl, trivial⟩ | simp only [AllP, inK_iff, roomOK_iff, decide_eq_true_eq, Bool.and_eq_true, Bool.or_eq_true, Bool.not_eq_true', decide_eq_false_iff_not, and_true, true_and]; (first | omega | (and_intros <;> intros <;> (try and_intros) <;> first | omega | assumption | exact trivial))))) (by kernel_rfl) ?_
    refine good_run 10 (obs := []) (by kernel_rfl) trivial ?_
    refine good_own (c := True) (by kernel_rfl) (by kernel_rfl) (SVles.refl _) (s14 (List.length l) (fun i => [SV.int IntKind.i64 (List.getD l i (0 : Int))]) (by (first | omega | assumption | exact ⟨rfl, trivial⟩ | simp only [AllP, inK_iff, roomOK_iff, decide_eq_true_eq, Bool.and_eq_true, Bool.or_eq_true, Bool.not_eq_true', decide_eq_false_iff_not, and_true, true_and]; (first | omega | (and_intros <;> intros <;> (try and_intros) <;> first | omega | assumption | exact trivial))))) ?_
    refine good_run 1 (obs := []) (by kernel_rfl) trivial ?_
    refine good_own (c := True) (by kernel_rfl) (by kernel_rfl) (SVles.refl _) (s27 (List.length b) (fun i => Shift.cells (List.getD b i default)) (by (first | omega | assumption | exact ⟨rfl, trivial⟩ | simp only [AllP, inK_iff, roomOK_iff, decide_eq_true_eq, Bool.and_eq_true, Bool.or_eq_true, Bool.not_eq_true', decide_eq_false_iff_not, and_true, true_and]; (first | omega | (and_intros <;> intros <;> (try and_intros) <;> first | omega | assumption | exact trivial))))) ?_
    refine good_call (c := True) (by kernel_rfl) (fun _ => SVles.refl _) (fun _ => s26 (l) (b) (by (first | omega | assumption | exact ⟨rfl, trivial⟩ | simp only [AllP, inK_iff, roomOK_iff, decide_eq_true_eq, Bool.and_eq_true, Bool.or_eq_true, Bool.not_eq_true', decide_eq_false_iff_not, and_true, true_and]; (first | omega | (and_intros <;> intros <;> (try and_intros) <;> first | omega | assumption | exact trivial))))) (by kernel_rfl) ?_
    refine good_run 18 (obs := []) (by kernel_rfl) trivial ?_
    refine good_cond (!decide ((applyL l a).snd = (0 : Int)) || !decide ((applyL l b).snd = (0 : Int))) (by kernel_rfl) (fun hc2 => ?_) (fun hc2 => ?_)
    · refine good_run 7 (obs := []) (by kernel_rfl) trivial ?_
      refine good_fin [true = true] (by kernel_rfl) ⟨rfl, trivial⟩
    · have hk : (applyL l a).2 = 0 ∧ (applyL l b).2 = 0 := by simpa using hc2
      obtain ⟨ha, hb⟩ := hk
      have hc : chkL l = 0 := Classical.byContradiction fun h => by
        unfold applyL at ha
        rw [if_neg h] at ha
        exact h ha
      obtain ⟨h1, h2, h3, h4⟩ := chk_pos hc
      have ea : applyL l a = appF l a := by unfold applyL; rw [if_pos hc, if_neg (by omega)]
      have eb : applyL l b = appF l b := by unfold applyL; rw [if_pos hc, if_neg (by omega)]
      have pa : (applyL l a).1.Perm l := appF_perm a l _ h2 (by rw [← ea, ← ha])
      have pb : (applyL l b).1.Perm l := appF_perm b l _ h2 (by rw [← eb, ← hb])
      generalize (applyL l a).1 = x at *
      generalize (applyL l b).1 = y at *
      have lx := pa.length_eq
      have ly := pb.length_eq
      have hcx := chk_perm pa hc
      have q1 := bet_val hc pa.symm
      have q2 := bet_val hcx pa
      have q3 := bet_val hcx (pa.trans pb.symm)
      have q4 := bet_val hc pb.symm
      have q5 := bet_val hc (isort_perm l).symm
      have hxn := pa.nodup_iff.2 h2
      have f1 : invC (placesL x l) = invC (placesL l x) := by rw [inv_disc hxn pa, inv_disc h2 pa.symm, disc_perm _ _ pa, disc_comm]
      have f2 : invC (placesL l y) ≤ invC (placesL l x) + invC (placesL x y) := by
        rw [inv_disc h2 pb.symm, inv_disc h2 pa.symm, inv_disc hxn (pa.trans pb.symm), disc_perm x y pa]
        exact disc_tri h2 fun a ha => pa.mem_iff.2 ha
      have f3 := dist_disc h2
      have hd : distL l = (invC l, 0) := by
        unfold distL
        rw [if_pos hc, (msC_spec l.length l (Nat.le_refl _)).2.2]
      have hsq : (l.length : Int) * l.length ≤ 20 * 20 := Int.mul_le_mul (by omega) (by omega) (by omega) (by omega)
      rw [lx] at q2 q3
      have s29a := s29 l x (by omega) (by omega)
      rw [q1.1] at s29a
      have s29b := s29 x l (by omega) (by omega)
      rw [q2.1] at s29b
      have s29c := s29 x y (by omega) (by omega)
      rw [q3.1] at s29c
      have s29d := s29 l y (by omega) (by omega)
      rw [q4.1] at s29d
      have s29e : Spec Try.prog 29 [ints l, .lst 1 l.length fun i => [.int .i64 ((isort l).getD i 0)]] (.tup [.int .i64 (invC (placesL l (isort l))), .int .i64 0]) := by
        have := s29 l (isort l) (by omega) (by rw [isort_length]; omega)
        rw [q5.1] at this
        unfold ints at this ⊢
        rw [isort_length] at this
        exact this
      have s16 := s16 l (by omega)
      rw [hd] at s16
      refine good_run 4 (obs := []) (by kernel_rfl) trivial ?_
      refine good_own (c := True) (by kernel_rfl) (by kernel_rfl) (SVles.refl _) (s14 (List.length l) (fun i => [SV.int IntKind.i64 (List.getD l i (0 : Int))]) (by (first | omega | assumption | exact ⟨rfl, trivial⟩ | simp only [AllP, inK_iff, roomOK_iff, decide_eq_true_eq, Bool.and_eq_true, Bool.or_eq_true, Bool.not_eq_true', decide_eq_false_iff_not, and_true, true_and]; (first | omega | (and_intros <;> intros <;> (try and_intros) <;> first | omega | assumption | exact trivial))))) ?_
      refine good_run 1 (obs := []) (by kernel_rfl) trivial ?_
      refine good_own (c := True) (by kernel_rfl) (by kernel_rfl) (SVles.refl _) (s14 (List.length x) (fun i => [SV.int IntKind.i64 (List.getD x i (0 : Int))]) (by (first | omega | assumption | exact ⟨rfl, trivial⟩ | simp only [AllP, inK_iff, roomOK_iff, decide_eq_true_eq, Bool.and_eq_true, Bool.or_eq_true, Bool.not_eq_true', decide_eq_false_iff_not, and_true, true_and]; (first | omega | (and_intros <;> intros <;> (try and_intros) <;> first | omega | assumption | exact trivial))))) ?_
      refine good_call (c := True) (by kernel_rfl) (fun _ => SVles.refl _) (fun _ => s29a) (by kernel_rfl) ?_
      refine good_run 10 (obs := []) (by kernel_rfl) trivial ?_
      refine good_own (c := True) (by kernel_rfl) (by kernel_rfl) (SVles.refl _) (s14 (List.length x) (fun i => [SV.int IntKind.i64 (List.getD x i (0 : Int))]) (by (first | omega | assumption | exact ⟨rfl, trivial⟩ | simp only [AllP, inK_iff, roomOK_iff, decide_eq_true_eq, Bool.and_eq_true, Bool.or_eq_true, Bool.not_eq_true', decide_eq_false_iff_not, and_true, true_and]; (first | omega | (and_intros <;> intros <;> (try and_intros) <;> first | omega | assumption | exact trivial))))) ?_
      refine good_run 1 (obs := []) (by kernel_rfl) trivial ?_
      refine good_own (c := True) (by kernel_rfl) (by kernel_rfl) (SVles.refl _) (s14 (List.length l) (fun i => [SV.int IntKind.i64 (List.getD l i (0 : Int))]) (by (first | omega | assumption | exact ⟨rfl, trivial⟩ | simp only [AllP, inK_iff, roomOK_iff, decide_eq_true_eq, Bool.and_eq_true, Bool.or_eq_true, Bool.not_eq_true', decide_eq_false_iff_not, and_true, true_and]; (first | omega | (and_intros <;> intros <;> (try and_intros) <;> first | omega | assumption | exact trivial))))) ?_
      refine good_call (c := True) (by kernel_rfl) (fun _ => SVles.refl _) (fun _ => s29b) (by kernel_rfl) ?_
      refine good_run 10 (obs := []) (by kernel_rfl) trivial ?_
      refine good_own (c := True) (by kernel_rfl) (by kernel_rfl) (SVles.refl _) (s14 (List.length x) (fun i => [SV.int IntKind.i64 (List.getD x i (0 : Int))]) (by (first | omega | assumption | exact ⟨rfl, trivial⟩ | simp only [AllP, inK_iff, roomOK_iff, decide_eq_true_eq, Bool.and_eq_true, Bool.or_eq_true, Bool.not_eq_true', decide_eq_false_iff_not, and_true, true_and]; (first | omega | (and_intros <;> intros <;> (try and_intros) <;> first | omega | assumption | exact trivial))))) ?_
      refine good_run 1 (obs := []) (by kernel_rfl) trivial ?_
      refine good_own (c := True) (by kernel_rfl) (by kernel_rfl) (SVles.refl _) (s14 (List.length y) (fun i => [SV.int IntKind.i64 (List.getD y i (0 : Int))]) (by (first | omega | assumption | exact ⟨rfl, trivial⟩ | simp only [AllP, inK_iff, roomOK_iff, decide_eq_true_eq, Bool.and_eq_true, Bool.or_eq_true, Bool.not_eq_true', decide_eq_false_iff_not, and_true, true_and]; (first | omega | (and_intros <;> intros <;> (try and_intros) <;> first | omega | assumption | exact trivial))))) ?_
      refine good_call (c := True) (by kernel_rfl) (fun _ => SVles.refl _) (fun _ => s29c) (by kernel_rfl) ?_
      refine good_run 10 (obs := []) (by kernel_rfl) trivial ?_
      refine good_own (c := True) (by kernel_rfl) (by kernel_rfl) (SVles.refl _) (s14 (List.length l) (fun i => [SV.int IntKind.i64 (List.getD l i (0 : Int))]) (by (first | omega | assumption | exact ⟨rfl, trivial⟩ | simp only [AllP, inK_iff, roomOK_iff, decide_eq_true_eq, Bool.and_eq_true, Bool.or_eq_true, Bool.not_eq_true', decide_eq_false_iff_not, and_true, true_and]; (first | omega | (and_intros <;> intros <;> (try and_intros) <;> first | omega | assumption | exact trivial))))) ?_
      refine good_run 1 (obs := []) (by kernel_rfl) trivial ?_
      refine good_own (c := True) (by kernel_rfl) (by kernel_rfl) (SVles.refl _) (s14 (List.length y) (fun i => [SV.int IntKind.i64 (List.getD y i (0 : Int))]) (by (first | omega | assumption | exact ⟨rfl, trivial⟩ | simp only [AllP, inK_iff, roomOK_iff, decide_eq_true_eq, Bool.and_eq_true, Bool.or_eq_true, Bool.not_eq_true', decide_eq_false_iff_not, and_true, true_and]; (first | omega | (and_intros <;> intros <;> (try and_intros) <;> first | omega | assumption | exact trivial))))) ?_
      refine good_call (c := True) (by kernel_rfl) (fun _ => SVles.refl _) (fun _ => s29d) (by kernel_rfl) ?_
      refine good_run 10 (obs := []) (by kernel_rfl) trivial ?_
      refine good_own (c := True) (by kernel_rfl) (by kernel_rfl) (SVles.refl _) (s14 (List.length l) (fun i => [SV.int IntKind.i64 (List.getD l i (0 : Int))]) (by (first | omega | assumption | exact ⟨rfl, trivial⟩ | simp only [AllP, inK_iff, roomOK_iff, decide_eq_true_eq, Bool.and_eq_true, Bool.or_eq_true, Bool.not_eq_true', decide_eq_false_iff_not, and_true, true_and]; (first | omega | (and_intros <;> intros <;> (try and_intros) <;> first | omega | assumption | exact trivial))))) ?_
      refine good_call (c := True) (by kernel_rfl) (fun _ => SVles.refl _) (fun _ => s16) (by kernel_rfl) ?_
      refine good_run 10 (obs := []) (by kernel_rfl) trivial ?_
      refine good_own (c := True) (by kernel_rfl) (by kernel_rfl) (SVles.refl _) (s14 (List.length l) (fun i => [SV.int IntKind.i64 (List.getD l i (0 : Int))]) (by (first | omega | assumption | exact ⟨rfl, trivial⟩ | simp only [AllP, inK_iff, roomOK_iff, decide_eq_true_eq, Bool.and_eq_true, Bool.or_eq_true, Bool.not_eq_true', decide_eq_false_iff_not, and_true, true_and]; (first | omega | (and_intros <;> intros <;> (try and_intros) <;> first | omega | assumption | exact trivial))))) ?_
      refine good_run 1 (obs := []) (by kernel_rfl) trivial ?_
      refine good_call (c := True) (by kernel_rfl) (fun _ => SVles.refl _) (fun _ => s32 (l)) (by kernel_rfl) ?_
      refine good_own (c := True) (by kernel_rfl) (by kernel_rfl) (SVles.refl _) (s31 (l) (by (first | omega | assumption | exact ⟨rfl, trivial⟩ | simp only [AllP, inK_iff, roomOK_iff, decide_eq_true_eq, Bool.and_eq_true, Bool.or_eq_true, Bool.not_eq_true', decide_eq_false_iff_not, and_true, true_and]; (first | omega | (and_intros <;> intros <;> (try and_intros) <;> first | omega | assumption | exact trivial))))) ?_
      refine good_call (c := True) (by kernel_rfl) (fun _ => SVles.refl _) (fun _ => s29e) (by kernel_rfl) ?_
      refine good_run 42 (obs := [InK IntKind.i64 ((0 : Int) + (0 : Int)), InK IntKind.i64 ((0 : Int) + (0 : Int) + (0 : Int)), InK IntKind.i64 ((0 : Int) + (0 : Int) + (0 : Int) + (0 : Int)), InK IntKind.i64 ((0 : Int) + (0 : Int) + (0 : Int) + (0 : Int) + (0 : Int)), InK IntKind.i64 ((0 : Int) + (0 : Int) + (0 : Int) + (0 : Int) + (0 : Int) + (0 : Int)), (decide ((0 : Int) + (0 : Int) + (0 : Int) + (0 : Int) + (0 : Int) + (0 : Int) = (0 : Int)) && decide (invC (placesL l x) = invC (placesL x l))) = true ∧ True → InK IntKind.i64 (invC (placesL l x) + invC (placesL x y))]) (by kernel_rfl) (by (first | omega | assumption | exact ⟨rfl, trivial⟩ | simp only [AllP, inK_iff, roomOK_iff, decide_eq_true_eq, Bool.and_eq_true, Bool.or_eq_true, Bool.not_eq_true', decide_eq_false_iff_not, and_true, true_and]; (first | omega | (and_intros <;> intros <;> (try and_intros) <;> first | omega | assumption | exact trivial)))) ?_
      refine good_fin [(decide ((0 : Int) + (0 : Int) + (0 : Int) + (0 : Int) + (0 : Int) + (0 : Int) = (0 : Int)) && decide (invC (placesL l x) = invC (placesL x l)) && decide (invC (placesL l y) ≤ invC (placesL l x) + invC (placesL x y)) && decide (invC l = invC (placesL l (isort l)))) = true] (by kernel_rfl) ⟨?_, trivial⟩
      rw [decide_eq_true f1.symm, decide_eq_true f2, decide_eq_true f3]
      rfl
end Go.Sx.T
