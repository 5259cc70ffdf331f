/- Contracts of functions of the program, each proved by running its code symbolically (QX7). -/
import Derived.Test.YtepkgkdbnoiieaaQNP
import Derived.Test.YtepkgkdbnoiieaaQX8
namespace Go.Sx.T
open Go Go.Proofs Go.Sx
set_option maxRecDepth 100000
set_option maxHeartbeats 8000000
set_option linter.unusedVariables false
set_option linter.unusedSimpArgs false
theorem runs_part (l : List Int) (n : Nat) (hn : n ≤ 1000) : ∀ k, k ≤ (runsK l n).length → 0 ≤ sumZ ((runsK l n).take k) ∧ sumZ ((runsK l n).take k) ≤ (k : Int) * 1000
  | 0, _ => by simp [sumZ]
  | k + 1, h => by
    have ih := runs_part l n hn k (by omega)
    have := runsK_bd l n k h
    rw [take_snoc _ k h, sumZ_append]
    simp only [sumZ]
    omega
theorem swapRow (l : List Int) (i : Nat) (h : i + 1 < l.length) (j : Nat) :
    SVles (if j = ((i : Int) + 1).toNat then lay (if ((i : Int) + 1).toNat = i then lay [SV.int .i64 (l.getD i 0)] 0 [SV.int .i64 (l.getD ((i : Int) + 1).toNat 0)] else [SV.int .i64 (l.getD ((i : Int) + 1).toNat 0)]) 0 [SV.int .i64 (l.getD i 0)]
      else if j = i then lay [SV.int .i64 (l.getD i 0)] 0 [SV.int .i64 (l.getD ((i : Int) + 1).toNat 0)] else [SV.int .i64 (l.getD j 0)]) [.int .i64 ((swapL l i).getD j 0)] := by
  rw [show ((i : Int) + 1).toNat = i + 1 by omega, swap_at l i h j, if_neg (show ¬ i + 1 = i by omega)]
  by_cases h1 : j = i + 1
  · rw [if_pos h1, if_neg (by omega), if_pos h1]; exact SVles.refl _
  · rw [if_neg h1]
    by_cases h2 : j = i
    · rw [if_pos h2, if_pos h2]; exact SVles.refl _
    · rw [if_neg h2, if_neg h2, if_neg h1]; exact SVles.refl _
theorem s7 (l : List Int) (at' : Int) (hat : InK .u8 at') : Spec Try.prog 7 [ints l, .int .u8 at'] (.bool true) := by
  refine spec_len 0 rfl (hasBody_of_slim Try.func7 F7_ok) fun hlen0 => ?_
  refine spec_of_good mixed Try.func7 F7_ok (by kernel_rfl) ?_
  have hat' : 0 ≤ at' ∧ at' ≤ 255 := by
    unfold InK at hat
    simp [IntKind.min, IntKind.max, IntKind.signed, IntKind.bits] at hat
    omega
  refine good_run 8 (obs := []) (by kernel_rfl) trivial ?_
  refine good_call (c := True) (by kernel_rfl) (fun _ => SVles.refl _) (fun _ => s11) (by kernel_rfl) ?_
  refine good_run 8 (obs := []) (by kernel_rfl) trivial ?_
  refine good_cond (!true || decide ((40 : Int) < (↑(List.length l) : Int))) (by kernel_rfl) (fun hc1 => ?_) (fun hc1 => ?_)
  · refine good_run 2 (obs := []) (by kernel_rfl) trivial ?_
    refine good_call (c := True) (by kernel_rfl) (fun _ => SVles.refl _) (fun _ => s11) (by kernel_rfl) ?_
    refine good_run 5 (obs := []) (by kernel_rfl) trivial ?_
    refine good_fin [true = true] (by kernel_rfl) ⟨rfl, trivial⟩
  · simp only [Bool.not_true, decide_eq_false_iff_not, Bool.or_eq_false_iff, true_and] at hc1
    have hl : l.length ≤ 100000 := by omega
    refine good_run 4 (obs := []) (by kernel_rfl) trivial ?_
    refine good_own (c := True) (by kernel_rfl) (by kernel_rfl) (SVles.refl _) (s14 (List.length l) (fun i => [SV.int IntKind.i64 (List.getD l i (0 : Int))]) (by (first | omega | assumption | exact ⟨rfl, trivial⟩ | simp only [AllP, inK_iff, roomOK_iff, decide_eq_true_eq, Bool.and_eq_true, Bool.or_eq_true, Bool.not_eq_true', decide_eq_false_iff_not, and_true, true_and]; (first | omega | (and_intros <;> intros <;> (try and_intros) <;> first | omega | assumption | exact trivial))))) ?_
    refine good_call (c := True) (by kernel_rfl) (fun _ => SVles.refl _) (fun _ => s16 (l) (by (first | omega | assumption | exact ⟨rfl, trivial⟩ | simp only [AllP, inK_iff, roomOK_iff, decide_eq_true_eq, Bool.and_eq_true, Bool.or_eq_true, Bool.not_eq_true', decide_eq_false_iff_not, and_true, true_and]; (first | omega | (and_intros <;> intros <;> (try and_intros) <;> first | omega | assumption | exact trivial))))) (by kernel_rfl) ?_
    refine good_run 14 (obs := []) (by kernel_rfl) trivial ?_
    refine good_cond (!decide ((distL l).snd = (0 : Int))) (by kernel_rfl) (fun hc2 => ?_) (fun hc2 => ?_)
    · have hc : chkL l ≠ 0 := fun h => by
        unfold distL at hc2
        rw [if_pos h] at hc2
        simp at hc2
      have e : distL l = (0, chkL l) := if_neg hc
      rw [e]
      refine good_run 9 (obs := []) (by kernel_rfl) trivial ?_
      refine good_fin [decide ((0 : Int) = (0 : Int)) = true] (by kernel_rfl) ⟨(by rfl), trivial⟩
    · have hc : chkL l = 0 := Classical.byContradiction fun h => by
        unfold distL at hc2
        rw [if_neg h] at hc2
        simp at hc2
        exact h hc2
      obtain ⟨h1, h2, h3, h4⟩ := chk_pos hc
      have hd : distL l = (invC l, 0) := by
        unfold distL
        rw [if_pos hc, (msC_spec l.length l (Nat.le_refl _)).2.2]
      have hp : presL l = (lis 0 l, 0) := if_pos hc
      have hr : runL l = (runsK l l.length, 0) := if_pos hc
      rw [hd]
      have s13 := s13 l hl
      rw [hp] at s13
      have s18 := s18 l hl
      rw [hr] at s18
      have i1 := invC_iff l
      have i2 := lis_full (l := l) (fun x hx => by have := h4 x hx; omega)
      have i3 := runs_iff h2
      refine good_run 4 (obs := []) (by kernel_rfl) trivial ?_
      refine good_own (c := True) (by kernel_rfl) (by kernel_rfl) (SVles.refl _) (s14 (List.length l) (fun i => [SV.int IntKind.i64 (List.getD l i (0 : Int))]) (by (first | omega | assumption | exact ⟨rfl, trivial⟩ | simp only [AllP, inK_iff, roomOK_iff, decide_eq_true_eq, Bool.and_eq_true, Bool.or_eq_true, Bool.not_eq_true', decide_eq_false_iff_not, and_true, true_and]; (first | omega | (and_intros <;> intros <;> (try and_intros) <;> first | omega | assumption | exact trivial))))) ?_
      refine good_call (c := True) (by kernel_rfl) (fun _ => SVles.refl _) (fun _ => s13) (by kernel_rfl) ?_
      refine good_run 10 (obs := []) (by kernel_rfl) trivial ?_
      refine good_own (c := True) (by kernel_rfl) (by kernel_rfl) (SVles.refl _) (s14 (List.length l) (fun i => [SV.int IntKind.i64 (List.getD l i (0 : Int))]) (by (first | omega | assumption | exact ⟨rfl, trivial⟩ | simp only [AllP, inK_iff, roomOK_iff, decide_eq_true_eq, Bool.and_eq_true, Bool.or_eq_true, Bool.not_eq_true', decide_eq_false_iff_not, and_true, true_and]; (first | omega | (and_intros <;> intros <;> (try and_intros) <;> first | omega | assumption | exact trivial))))) ?_
      refine good_call (c := True) (by kernel_rfl) (fun _ => SVles.refl _) (fun _ => s18) (by kernel_rfl) ?_
      refine good_run 36 (obs := []) (by kernel_rfl) trivial ?_
      refine good_cond (!decide ((0 : Int) = (0 : Int)) || !decide ((0 : Int) = (0 : Int)) || decide (invC l = (0 : Int)) != decide ((↑(List.length (lis (0 : Int) l, (0 : Int)).fst) : Int) = (↑(List.length l) : Int)) || decide (invC l = (0 : Int)) != decide ((↑(List.length (runsK l (List.length l), (0 : Int)).fst) : Int) ≤ (1 : Int))) (by kernel_rfl) (fun hc3 => ?_) (fun hc3 => ?_)
      · exfalso
        have j1 : decide (invC l = 0) = decide ((lis 0 l).length = l.length) := decide_eq_decide.2 (i1.trans i2.symm)
        have j2 : decide (invC l = 0) = decide ((runsK l l.length).length ≤ 1) := decide_eq_decide.2 (i1.trans i3.symm)
        have k1 : decide (((lis 0 l).length : Int) = l.length) = decide ((lis 0 l).length = l.length) := decide_eq_decide.2 (by omega)
        have k2 : decide (((runsK l l.length).length : Int) ≤ 1) = decide ((runsK l l.length).length ≤ 1) := decide_eq_decide.2 (by omega)
        dsimp only at hc3
        rw [k1, k2, ← j1, ← j2] at hc3
        simp at hc3
      · refine good_run 15 (obs := []) (by kernel_rfl) trivial ?_
        refine good_loopJ (fun k : Nat => ⟨[(77, .sv (.int .i64 (k))), (11, .sv (.int .i64 ((sumZ ((runsK l l.length).take k))))), (76, LV.sv (SV.int IntKind.i64 (↑(List.length (runsK l (List.length l), (0 : Int)).fst) : Int))), (75, LV.sv (SV.lst (1 : Nat) (List.length (runsK l (List.length l), (0 : Int)).fst) fun i => [SV.int IntKind.i64 (List.getD (runsK l (List.length l), (0 : Int)).fst i (0 : Int))])), (5, LV.sv (SV.int IntKind.i64 (invC l))), (0, LV.sv (SV.lst (1 : Nat) (List.length l) fun i => [SV.int IntKind.i64 (List.getD l i (0 : Int))])), (1, LV.sv (SV.int IntKind.u8 at'))], [Blk.row (3 : Nat) (1 : Nat) (List.length l) true fun i => [SV.int IntKind.i64 (List.getD l i (0 : Int))], Blk.row (3 : Nat) (1 : Nat) (List.length l) false fun i => [SV.int IntKind.i64 (List.getD l i (0 : Int))], Blk.row (3 : Nat) (1 : Nat) (List.length l) false fun i => [SV.int IntKind.i64 (List.getD l i (0 : Int))]]⟩) (fun k => k ≤ (runsK l l.length).length) (fun k => (runsK l l.length).length - k) (0) [List.length l = List.length l ∧ ∀ (i : Nat), i < List.length l → (fun i => [SV.int IntKind.i64 (List.getD l i (0 : Int))]) i = (fun i => [SV.int IntKind.i64 (List.getD l i (0 : Int))]) i, List.length l = List.length l ∧ ∀ (i : Nat), i < List.length l → (fun i => [SV.int IntKind.i64 (List.getD l i (0 : Int))]) i = (fun i => [SV.int IntKind.i64 (List.getD l i (0 : Int))]) i, List.length l = List.length l ∧ ∀ (i : Nat), i < List.length l → (fun i => [SV.int IntKind.i64 (List.getD l i (0 : Int))]) i = (fun i => [SV.int IntKind.i64 (List.getD l i (0 : Int))]) i, (0 : Int) = (0 : Int), (0 : Int) = sumZ [], (↑(List.length (runsK l (List.length l), (0 : Int)).fst) : Int) = (↑(List.length (runsK l (List.length l), (0 : Int)).fst) : Int), List.length (runsK l (List.length l), (0 : Int)).fst = List.length (runsK l (List.length l), (0 : Int)).fst ∧ ∀ (i : Nat), i < List.length (runsK l (List.length l), (0 : Int)).fst → (fun i => [SV.int IntKind.i64 (List.getD (runsK l (List.length l), (0 : Int)).fst i (0 : Int))]) i = (fun i => [SV.int IntKind.i64 (List.getD (runsK l (List.length l), (0 : Int)).fst i (0 : Int))]) i, invC l = invC l, List.length l = List.length l ∧ ∀ (i : Nat), i < List.length l → (fun i => [SV.int IntKind.i64 (List.getD l i (0 : Int))]) i = (fun i => [SV.int IntKind.i64 (List.getD l i (0 : Int))]) i, at' = at'] (by kernel_rfl) (by kernel_rfl) ⟨⟨rfl, fun _ _ => rfl⟩, ⟨rfl, fun _ _ => rfl⟩, ⟨rfl, fun _ _ => rfl⟩, rfl, (by rfl), rfl, ⟨rfl, fun _ _ => rfl⟩, rfl, ⟨rfl, fun _ _ => rfl⟩, rfl, trivial⟩ (by omega) ?_
        all_goals skip
        intro k hk
        have hrl := (runsK_len l l.length).1
        have hb := runs_part l l.length (by omega) k hk
        refine good_run 6 (obs := []) (by kernel_rfl) trivial ?_
        refine good_cond (decide ((↑k : Int) < (↑(List.length (runsK l (List.length l), (0 : Int)).fst) : Int))) (by kernel_rfl) (fun hc4 => ?_) (fun hc4 => ?_)
        · have hkl : k < (runsK l l.length).length := by simp only [decide_eq_true_eq] at hc4; omega
          have hb2 := runsK_bd l l.length k hkl
          have hs : sumZ ((runsK l l.length).take (k + 1)) = sumZ ((runsK l l.length).take k) + (runsK l l.length).getD k 0 := by
            rw [take_snoc _ k hkl, sumZ_append]; simp [sumZ]
          refine good_run 23 (obs := [(1 : Nat) = (1 : Nat) ∧ (0 : Int) ≤ (↑k : Int) ∧ (↑k : Int) < (↑(List.length (runsK l (List.length l), (0 : Int)).fst) : Int), InK IntKind.i64 (sumZ (List.take k (runsK l (List.length l))) + List.getD (runsK l (List.length l), (0 : Int)).fst k (0 : Int)), InK IntKind.i64 ((↑k : Int) + (1 : Int))]) (by kernel_rfl) (by (first | omega | assumption | exact ⟨rfl, trivial⟩ | simp only [AllP, inK_iff, roomOK_iff, decide_eq_true_eq, Bool.and_eq_true, Bool.or_eq_true, Bool.not_eq_true', decide_eq_false_iff_not, and_true, true_and]; (first | omega | (and_intros <;> intros <;> (try and_intros) <;> first | omega | assumption | exact trivial)))) ?_
          refine good_backJ (k + 1) [List.length l = List.length l ∧ ∀ (i : Nat), i < List.length l → (fun i => [SV.int IntKind.i64 (List.getD l i (0 : Int))]) i = (fun i => [SV.int IntKind.i64 (List.getD l i (0 : Int))]) i, List.length l = List.length l ∧ ∀ (i : Nat), i < List.length l → (fun i => [SV.int IntKind.i64 (List.getD l i (0 : Int))]) i = (fun i => [SV.int IntKind.i64 (List.getD l i (0 : Int))]) i, List.length l = List.length l ∧ ∀ (i : Nat), i < List.length l → (fun i => [SV.int IntKind.i64 (List.getD l i (0 : Int))]) i = (fun i => [SV.int IntKind.i64 (List.getD l i (0 : Int))]) i, (↑k : Int) + (1 : Int) = (↑(k + (1 : Nat)) : Int), sumZ (List.take k (runsK l (List.length l))) + List.getD (runsK l (List.length l), (0 : Int)).fst k (0 : Int) = sumZ (List.take (k + (1 : Nat)) (runsK l (List.length l))), (↑(List.length (runsK l (List.length l), (0 : Int)).fst) : Int) = (↑(List.length (runsK l (List.length l), (0 : Int)).fst) : Int), List.length (runsK l (List.length l), (0 : Int)).fst = List.length (runsK l (List.length l), (0 : Int)).fst ∧ ∀ (i : Nat), i < List.length (runsK l (List.length l), (0 : Int)).fst → (fun i => [SV.int IntKind.i64 (List.getD (runsK l (List.length l), (0 : Int)).fst i (0 : Int))]) i = (fun i => [SV.int IntKind.i64 (List.getD (runsK l (List.length l), (0 : Int)).fst i (0 : Int))]) i, invC l = invC l, List.length l = List.length l ∧ ∀ (i : Nat), i < List.length l → (fun i => [SV.int IntKind.i64 (List.getD l i (0 : Int))]) i = (fun i => [SV.int IntKind.i64 (List.getD l i (0 : Int))]) i, at' = at'] (by kernel_rfl) (by kernel_rfl) ⟨⟨rfl, fun _ _ => rfl⟩, ⟨rfl, fun _ _ => rfl⟩, ⟨rfl, fun _ _ => rfl⟩, (by omega), ?_, rfl, ⟨rfl, fun _ _ => rfl⟩, rfl, ⟨rfl, fun _ _ => rfl⟩, rfl, trivial⟩ (by omega) (by show _ < _; omega)
          exact hs.symm
        · have hke : k = (runsK l l.length).length := by simp only [decide_eq_false_iff_not] at hc4; omega
          subst hke
          rw [List.take_length, runs_sum]
          refine good_run 2 (obs := []) (by kernel_rfl) trivial ?_
          refine good_leaveJ (by kernel_rfl) ?_
          refine good_run 15 (obs := []) (by kernel_rfl) trivial ?_
          refine good_cond (!decide ((↑(List.length l) : Int) = (↑(List.length l) : Int)) || decide ((↑(List.length l) : Int) < (2 : Int))) (by kernel_rfl) (fun hc5 => ?_) (fun hc5 => ?_)
          · refine good_run 11 (obs := []) (by kernel_rfl) trivial ?_
            refine good_fin [decide ((↑(List.length l) : Int) = (↑(List.length l) : Int)) = true] (by kernel_rfl) ⟨?_, trivial⟩
            simp
          · have h2l : 2 ≤ l.length := by
              have : (2 : Int) ≤ l.length := by simpa using hc5
              omega
            have hm0 : 0 ≤ at' % ((l.length : Int) - 1) := Int.emod_nonneg _ (by omega)
            have hm1 : at' % ((l.length : Int) - 1) < (l.length : Int) - 1 := Int.emod_lt_of_pos _ (by omega)
            obtain ⟨i, hi⟩ := Int.eq_ofNat_of_zero_le hm0
            have hil : i + 1 < l.length := by omega
            have e1 : ((i : Int) + 1).toNat = i + 1 := by omega
            refine good_run 4 (obs := []) (by kernel_rfl) trivial ?_
            refine good_run 2 (obs := [InK IntKind.i64 at']) (by kernel_rfl) (by (first | omega | assumption | exact ⟨rfl, trivial⟩ | simp only [AllP, inK_iff, roomOK_iff, decide_eq_true_eq, Bool.and_eq_true, Bool.or_eq_true, Bool.not_eq_true', decide_eq_false_iff_not, and_true, true_and]; (first | omega | (and_intros <;> intros <;> (try and_intros) <;> first | omega | assumption | exact trivial)))) ?_
            refine good_run 3 (obs := [InK IntKind.i64 ((↑(List.length l) : Int) - (1 : Int)), (0 : Int) ≤ at' ∧ (0 : Int) < (↑(List.length l) : Int) - (1 : Int)]) (by kernel_rfl) (by (first | omega | assumption | exact ⟨rfl, trivial⟩ | simp only [AllP, inK_iff, roomOK_iff, decide_eq_true_eq, Bool.and_eq_true, Bool.or_eq_true, Bool.not_eq_true', decide_eq_false_iff_not, and_true, true_and]; (first | omega | (and_intros <;> intros <;> (try and_intros) <;> first | omega | assumption | exact trivial)))) ?_
            refine good_sv 103 (a := SV.int IntKind.i64 (at' % ((↑(List.length l) : Int) - (1 : Int)))) (.int .i64 (i : Int)) (by kernel_rfl) (by rw [hi]; exact SVle.refl _) ?_
            refine good_run 6 (obs := []) (by kernel_rfl) trivial ?_
            refine good_own (c := True) (by kernel_rfl) (by kernel_rfl) (SVles.refl _) (s14 (List.length l) (fun i => [SV.int IntKind.i64 (List.getD l i (0 : Int))]) (by (first | omega | assumption | exact ⟨rfl, trivial⟩ | simp only [AllP, inK_iff, roomOK_iff, decide_eq_true_eq, Bool.and_eq_true, Bool.or_eq_true, Bool.not_eq_true', decide_eq_false_iff_not, and_true, true_and]; (first | omega | (and_intros <;> intros <;> (try and_intros) <;> first | omega | assumption | exact trivial))))) ?_
            refine good_run 14 (obs := []) (by kernel_rfl) trivial ?_
            refine good_set [0, 5, 14, 15, 106, 107, 108, 109, 110, 111, 112, 113, 114, 115, 116, 117, 118, 119, 120, 121, 152, 153, 156, 157, 158, 161, 162] [] [InK IntKind.i64 ((↑i : Int) + (1 : Int)), InK IntKind.i64 ((↑i : Int) + (1 : Int)), (1 : Nat) = (1 : Nat) ∧ (0 : Int) ≤ (↑i : Int) + (1 : Int) ∧ (↑i : Int) + (1 : Int) < (↑(List.length l) : Int), (1 : Nat) = (1 : Nat) ∧ (0 : Int) ≤ (↑i : Int) ∧ (↑i : Int) < (↑(List.length l) : Int), (1 : Nat) = (1 : Nat) ∧ (0 : Int) ≤ (↑i : Int) ∧ (↑i : Int) < (↑(List.length l) : Int), (1 : Nat) = (1 : Nat) ∧ (0 : Nat) + (1 : Nat) ≤ (1 : Nat), (1 : Nat) = (1 : Nat) ∧ (0 : Int) ≤ (↑i : Int) + (1 : Int) ∧ (↑i : Int) + (1 : Int) < (↑(List.length l) : Int), (1 : Nat) = (1 : Nat) ∧ (0 : Nat) + (1 : Nat) ≤ (1 : Nat)] (by kernel_rfl) ⟨(by (first | omega | assumption | exact ⟨rfl, trivial⟩ | simp only [AllP, inK_iff, roomOK_iff, decide_eq_true_eq, Bool.and_eq_true, Bool.or_eq_true, Bool.not_eq_true', decide_eq_false_iff_not, and_true, true_and]; (first | omega | (and_intros <;> intros <;> (try and_intros) <;> first | omega | assumption | exact trivial)))), (by (first | omega | assumption | exact ⟨rfl, trivial⟩ | simp only [AllP, inK_iff, roomOK_iff, decide_eq_true_eq, Bool.and_eq_true, Bool.or_eq_true, Bool.not_eq_true', decide_eq_false_iff_not, and_true, true_and]; (first | omega | (and_intros <;> intros <;> (try and_intros) <;> first | omega | assumption | exact trivial)))), (by (first | omega | assumption | exact ⟨rfl, trivial⟩ | simp only [AllP, inK_iff, roomOK_iff, decide_eq_true_eq, Bool.and_eq_true, Bool.or_eq_true, Bool.not_eq_true', decide_eq_false_iff_not, and_true, true_and]; (first | omega | (and_intros <;> intros <;> (try and_intros) <;> first | omega | assumption | exact trivial)))), (by (first | omega | assumption | exact ⟨rfl, trivial⟩ | simp only [AllP, inK_iff, roomOK_iff, decide_eq_true_eq, Bool.and_eq_true, Bool.or_eq_true, Bool.not_eq_true', decide_eq_false_iff_not, and_true, true_and]; (first | omega | (and_intros <;> intros <;> (try and_intros) <;> first | omega | assumption | exact trivial)))), (by (first | omega | assumption | exact ⟨rfl, trivial⟩ | simp only [AllP, inK_iff, roomOK_iff, decide_eq_true_eq, Bool.and_eq_true, Bool.or_eq_true, Bool.not_eq_true', decide_eq_false_iff_not, and_true, true_and]; (first | omega | (and_intros <;> intros <;> (try and_intros) <;> first | omega | assumption | exact trivial)))), (by (first | omega | assumption | exact ⟨rfl, trivial⟩ | simp only [AllP, inK_iff, roomOK_iff, decide_eq_true_eq, Bool.and_eq_true, Bool.or_eq_true, Bool.not_eq_true', decide_eq_false_iff_not, and_true, true_and]; (first | omega | (and_intros <;> intros <;> (try and_intros) <;> first | omega | assumption | exact trivial)))), (by (first | omega | assumption | exact ⟨rfl, trivial⟩ | simp only [AllP, inK_iff, roomOK_iff, decide_eq_true_eq, Bool.and_eq_true, Bool.or_eq_true, Bool.not_eq_true', decide_eq_false_iff_not, and_true, true_and]; (first | omega | (and_intros <;> intros <;> (try and_intros) <;> first | omega | assumption | exact trivial)))), (by (first | omega | assumption | exact ⟨rfl, trivial⟩ | simp only [AllP, inK_iff, roomOK_iff, decide_eq_true_eq, Bool.and_eq_true, Bool.or_eq_true, Bool.not_eq_true', decide_eq_false_iff_not, and_true, true_and]; (first | omega | (and_intros <;> intros <;> (try and_intros) <;> first | omega | assumption | exact trivial)))), trivial⟩ ?_
            refine good_run 3 (obs := []) (by kernel_rfl) trivial ?_
            refine good_row 3 (t := (3 : Nat)) (sz := (1 : Nat)) (n := List.length l) (mu := true) (get := fun j => if j = Int.toNat ((↑i : Int) + (1 : Int)) then lay ((fun j => if j = i then lay ((fun i => [SV.int IntKind.i64 (List.getD l i (0 : Int))]) i) (0 : Nat) [SV.int IntKind.i64 (List.getD l (Int.toNat ((↑i : Int) + (1 : Int))) (0 : Int))] else (fun i => [SV.int IntKind.i64 (List.getD l i (0 : Int))]) j) (Int.toNat ((↑i : Int) + (1 : Int)))) (0 : Nat) [SV.int IntKind.i64 (List.getD l i (0 : Int))] else (fun j => if j = i then lay ((fun i => [SV.int IntKind.i64 (List.getD l i (0 : Int))]) i) (0 : Nat) [SV.int IntKind.i64 (List.getD l (Int.toNat ((↑i : Int) + (1 : Int))) (0 : Int))] else (fun i => [SV.int IntKind.i64 (List.getD l i (0 : Int))]) j) j) (fun k => [.int .i64 ((swapL l i).getD k 0)]) (by kernel_rfl) (fun j _ => swapRow l i hil j) ?_
            have hsp := swap_perm l i hil
            have hsl := hsp.length_eq
            have hcm := chk_perm hsp hc
            have c16 : Spec Try.prog 16 [.lst 1 l.length fun k => [.int .i64 ((swapL l i).getD k 0)]] (.tup [.int .i64 (invC (swapL l i)), .int .i64 0]) := by
              have := s16 (swapL l i) (by omega)
              have hd : distL (swapL l i) = (invC (swapL l i), 0) := by
                unfold distL
                rw [if_pos hcm, (msC_spec (swapL l i).length (swapL l i) (Nat.le_refl _)).2.2]
              rw [hd] at this
              unfold ints at this
              rw [hsl] at this
              exact this
            have c29 : Spec Try.prog 29 [ints l, .lst 1 l.length fun k => [.int .i64 ((swapL l i).getD k 0)]] (.tup [.int .i64 1, .int .i64 0]) := by
              have := s29 l (swapL l i) (by omega) (by omega)
              rw [(bet_val hc hsp.symm).1, bet_swap h2 i hil] at this
              unfold ints at this ⊢
              rw [hsl] at this
              exact this
            have hds := dist_swap h2 i hil
            have hib := msC_len l.length l
            rw [(msC_spec l.length l (Nat.le_refl _)).2.2] at hib
            have hsq : (l.length : Int) * l.length ≤ 40 * 40 := Int.mul_le_mul (by omega) (by omega) (by omega) (by omega)
            refine good_run 1 (obs := []) (by kernel_rfl) trivial ?_
            refine good_own (c := True) (by kernel_rfl) (by kernel_rfl) (SVles.refl _) (s14 (List.length l) (fun k => [SV.int IntKind.i64 (List.getD (swapL l i) k (0 : Int))]) (by (first | omega | assumption | exact ⟨rfl, trivial⟩ | simp only [AllP, inK_iff, roomOK_iff, decide_eq_true_eq, Bool.and_eq_true, Bool.or_eq_true, Bool.not_eq_true', decide_eq_false_iff_not, and_true, true_and]; (first | omega | (and_intros <;> intros <;> (try and_intros) <;> first | omega | assumption | exact trivial))))) ?_
            refine good_call (c := True) (by kernel_rfl) (fun _ => SVles.refl _) (fun _ => c16) (by kernel_rfl) ?_
            refine good_run 10 (obs := []) (by kernel_rfl) trivial ?_
            refine good_own (c := True) (by kernel_rfl) (by kernel_rfl) (SVles.refl _) (s14 (List.length l) (fun i => [SV.int IntKind.i64 (List.getD l i (0 : Int))]) (by (first | omega | assumption | exact ⟨rfl, trivial⟩ | simp only [AllP, inK_iff, roomOK_iff, decide_eq_true_eq, Bool.and_eq_true, Bool.or_eq_true, Bool.not_eq_true', decide_eq_false_iff_not, and_true, true_and]; (first | omega | (and_intros <;> intros <;> (try and_intros) <;> first | omega | assumption | exact trivial))))) ?_
            refine good_run 1 (obs := []) (by kernel_rfl) trivial ?_
            refine good_call (c := True) (by kernel_rfl) (fun _ => SVles.refl _) (fun _ => c29) (by kernel_rfl) ?_
            refine good_run 29 (obs := [InK IntKind.i64 (invC l + (1 : Int)), True → (1 : Nat) = (1 : Nat) ∧ (0 : Int) ≤ (↑i : Int) ∧ (↑i : Int) < (↑(List.length l) : Int), True → InK IntKind.i64 ((↑i : Int) + (1 : Int)), True → (1 : Nat) = (1 : Nat) ∧ (0 : Int) ≤ (↑i : Int) + (1 : Int) ∧ (↑i : Int) + (1 : Int) < (↑(List.length l) : Int)]) (by kernel_rfl) (by (first | omega | assumption | exact ⟨rfl, trivial⟩ | simp only [AllP, inK_iff, roomOK_iff, decide_eq_true_eq, Bool.and_eq_true, Bool.or_eq_true, Bool.not_eq_true', decide_eq_false_iff_not, and_true, true_and]; (first | omega | (and_intros <;> intros <;> (try and_intros) <;> first | omega | assumption | exact trivial)))) ?_
            refine good_cond (decide (List.getD l (Int.toNat ((↑i : Int) + (1 : Int))) (0 : Int) < List.getD l i (0 : Int))) (by kernel_rfl) (fun hc6 => ?_) (fun hc6 => ?_)
            · rw [if_pos (by rw [e1] at hc6; simpa using hc6)] at hds
              refine good_run 27 (obs := [InK IntKind.i64 (invC l - (1 : Int))]) (by kernel_rfl) (by (first | omega | assumption | exact ⟨rfl, trivial⟩ | simp only [AllP, inK_iff, roomOK_iff, decide_eq_true_eq, Bool.and_eq_true, Bool.or_eq_true, Bool.not_eq_true', decide_eq_false_iff_not, and_true, true_and]; (first | omega | (and_intros <;> intros <;> (try and_intros) <;> first | omega | assumption | exact trivial)))) ?_
              refine good_fin [(decide ((0 : Int) = (0 : Int)) && decide ((0 : Int) = (0 : Int)) && decide (invC (swapL l i) = invC l - (1 : Int)) && decide ((1 : Int) = (1 : Int))) = true] (by kernel_rfl) ⟨?_, trivial⟩
              rw [hds]; simp
            · rw [if_neg (by rw [e1] at hc6; simpa using hc6)] at hds
              refine good_run 22 (obs := []) (by kernel_rfl) trivial ?_
              refine good_fin [(decide ((0 : Int) = (0 : Int)) && decide ((0 : Int) = (0 : Int)) && decide (invC (swapL l i) = invC l + (1 : Int)) && decide ((1 : Int) = (1 : Int))) = true] (by kernel_rfl) ⟨?_, trivial⟩
              rw [hds]; simp
end Go.Sx.T
