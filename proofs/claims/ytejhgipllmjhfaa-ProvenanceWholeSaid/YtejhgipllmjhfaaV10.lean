/- Contracts of functions of the program, each proved by running its code symbolically (V10). -/
import Derived.Test.YtejhgipllmjhfaaV9
namespace Go.Sx.T
open Go Go.Proofs Go.Sx
set_option maxRecDepth 100000
set_option maxHeartbeats 4000000
set_option linter.unusedVariables false
set_option linter.unusedSimpArgs false
theorem nums_snoc (S : List Came) (k : Nat) (h : k < S.length) : k + 1 = k + 1 ∧ ∀ i, i < k + 1 → joinGet k (fun i => [SV.int .i64 ((S.map Came.Num).getD i 0)]) (cutRows 1 [SV.int .i64 (S.getD k default).Num]) i = (fun i => [SV.int .i64 ((S.map Came.Num).getD i 0)]) i := by
  refine ⟨rfl, fun i hi => ?_⟩
  unfold joinGet
  split
  · rfl
  · have : i = k := by omega
    subst this
    rw [Nat.sub_self]
    show [SV.int .i64 (S.getD i default).Num] = [SV.int .i64 ((S.map Came.Num).getD i 0)]
    rw [getD_of_lt S i h, getD_of_lt (S.map Came.Num) i (by simpa using h), List.getElem_map]
theorem order_bad {l : List Came} {a : Int} (h : (orderC l a).2 ≠ 0) : (orderC l a).1 = [] := by
  unfold orderC at h ⊢
  split
  · rfl
  · split
    · rfl
    · rename_i h1 h2
      rw [if_neg h1, if_neg h2] at h
      exact (h rfl).elim
theorem order_good {l : List Came} {a : Int} (h : (orderC l a).2 = 0) : RightC l ∧ inI a 1 1073741824 = true := by
  unfold orderC at h
  split at h
  · cases h
  · rename_i h1
    split at h
    · cases h
    · rename_i h2
      exact ⟨(right_iff l).1 (by simpa using h1), by simpa using h2⟩
theorem erase_sv (L : List Int) (I : Int) (len : Nat) (h0 : 0 ≤ I) (h1 : I < len) (hl : L.length = len) : SVle (.lst 1 (len - ((I + 1).toNat - I.toNat)) fun k => if k < I.toNat then [SV.int .i64 (L.getD k 0)] else [SV.int .i64 (L.getD (k + ((I + 1).toNat - I.toNat)) 0)]) (ints (L.eraseIdx I.toNat)) := by
  have e : (I + 1).toNat - I.toNat = 1 := by omega
  rw [e]
  refine svle_lst (by rw [List.length_eraseIdx, if_pos (by omega)]; omega) fun k hk => SVles.of_eq ?_
  show (if k < I.toNat then [SV.int .i64 (L.getD k 0)] else [SV.int .i64 (L.getD (k + 1) 0)]) = [SV.int .i64 ((L.eraseIdx I.toNat).getD k 0)]
  rw [List.getD_eq_getElem?_getD (l := L.eraseIdx I.toNat), List.getElem?_eraseIdx]
  split
  · rw [List.getD_eq_getElem?_getD]
  · rw [List.getD_eq_getElem?_getD]
theorem part1_sv (L : List Int) (I : Int) (h0 : 0 ≤ I) : SVle (.lst 1 ((I + 1).toNat - I.toNat) fun i => (fun i => [SV.int .i64 (L.getD i 0)]) (I.toNat + i)) (ints [L.getD I.toNat 0]) := by
  refine svle_lst (by show _ = 1; omega) fun i hi => SVles.of_eq ?_
  have : i = 0 := by omega
  subst this
  rfl
theorem ins_sv (L : List Int) (len j : Nat) (x : Int) (hl : L.length = len) (hj : j ≤ L.length) : SVle (.lst 1 (len + 1) (insGet j (cutRows 1 [SV.int .i64 x] 0) fun i => [SV.int .i64 (L.getD i 0)])) (ints (L.insertIdx j x)) := by
  refine svle_lst (by rw [List.length_insertIdx, if_pos hj, hl]) fun i hi => SVles.of_eq ?_
  exact insGet_list (fun x : Int => [SV.int .i64 x]) 0 L j x hj i (by omega)
theorem s9 (l : List Came) (a : Int) (n : Int) (hn : InK .u8 n) : Spec Try.prog 9 [cames l, .int .i64 a, .int .u8 n] (.bool true) := by
  have hn0 : 0 ≤ n := hn.1
  have hn1 : n ≤ 255 := hn.2
  refine spec_of_good mixed Try.func9 F9_ok (by kernel_rfl) ?_
  refine good_run 8 (obs := []) (by kernel_rfl) trivial ?_
  refine good_call (c := True) (by kernel_rfl) (fun _ => SVles.refl _) (fun _ => s10) (by kernel_rfl) ?_
  refine good_run 8 (obs := []) (by kernel_rfl) trivial ?_
  refine good_cond (!true || decide ((20 : Int) < (↑(List.length l) : Int))) (by kernel_rfl) (fun hc1 => ?_) (fun hc1 => ?_)
  · refine good_run 2 (obs := []) (by kernel_rfl) trivial ?_
    refine good_call (c := True) (by kernel_rfl) (fun _ => SVles.refl _) (fun _ => s10) (by kernel_rfl) ?_
    refine good_run 5 (obs := []) (by kernel_rfl) trivial ?_
    refine good_fin [true = true] (by kernel_rfl) ⟨rfl, trivial⟩
  · have hl : l.length ≤ 20 := by
      simp only [Bool.not_true, Bool.false_or, decide_eq_false_iff_not, gt_iff_lt] at hc1
      omega
    clear hc1
    refine good_run 4 (obs := []) (by kernel_rfl) trivial ?_
    refine good_own (c := True) (by kernel_rfl) (by kernel_rfl) (SVles.refl _) (s13 (List.length l) (fun i => Came.cells (List.getD l i default)) (by (first | omega | assumption | exact ⟨rfl, trivial⟩ | simp only [AllP, inK_iff, roomOK_iff, decide_eq_true_eq, Bool.and_eq_true, Bool.or_eq_true, Bool.not_eq_true', decide_eq_false_iff_not, and_true, true_and]; (first | omega | (and_intros <;> intros <;> (try and_intros) <;> first | omega | assumption | exact trivial))))) ?_
    refine good_run 1 (obs := []) (by kernel_rfl) trivial ?_
    refine good_call (c := True) (by kernel_rfl) (fun _ => SVles.refl _) (fun _ => s20 (l) (a)) (by kernel_rfl) ?_
    refine good_run 14 (obs := []) (by kernel_rfl) trivial ?_
    refine good_cond (!decide ((orderC l a).snd = (0 : Int))) (by kernel_rfl) (fun hc1 => ?_) (fun hc1 => ?_)
    · have hb := order_bad (l := l) (a := a) (by simpa using hc1)
      refine good_run 10 (obs := []) (by kernel_rfl) trivial ?_
      refine good_fin [decide ((↑(List.length (orderC l a).fst) : Int) = (0 : Int)) = true] (by kernel_rfl) ⟨?_, trivial⟩
      rw [hb]
      rfl
    · obtain ⟨hR, hia⟩ := order_good (l := l) (a := a) (by simpa using hc1)
      clear hc1
      have hoo := order_ok hR hia
      have hsm : ∀ x ∈ sortN (ownL l a), x ∈ l := fun x hx => by
        have h1 := (sortN_perm _).mem_iff.1 hx
        unfold ownL at h1
        exact (List.mem_filter.1 h1).1
      have hsl : (sortN (ownL l a)).length ≤ 20 := by
        rw [sortN_len]
        have := List.length_filter_le (fun c : Came => decide (c.Acc = a)) l
        unfold ownL; omega
      have hN : numsC l a = (sortN (ownL l a)).map Came.Num := rfl
      generalize hS : sortN (ownL l a) = S at *
      rw [hoo] at *
      refine good_run 15 (obs := []) (by kernel_rfl) trivial ?_
      refine good_loopJ (fun k : Nat => ⟨[(43, .sv (.int .i64 (k))), (9, .own 1), (42, LV.sv (SV.int IntKind.i64 (↑(List.length (List.map Came.Unit S, (0 : Int)).fst) : Int))), (41, LV.sv (SV.lst (1 : Nat) (List.length (List.map Came.Unit S, (0 : Int)).fst) fun i => [SV.int IntKind.i64 (List.getD (List.map Came.Unit S, (0 : Int)).fst i (0 : Int))])), (0, LV.sv (SV.lst (4 : Nat) (List.length l) fun i => Came.cells (List.getD l i default))), (1, LV.sv (SV.int IntKind.i64 a)), (2, LV.sv (SV.int IntKind.u8 n))], [Blk.row (32 : Nat) (4 : Nat) (List.length l) false fun i => Came.cells (List.getD l i default), .row 3 1 k true fun i => [.int .i64 ((S.map Came.Num).getD i 0)]]⟩) (fun k => k ≤ S.length) (fun k => S.length - k) (0) [List.length l = List.length l ∧ ∀ (i : Nat), i < List.length l → (fun i => Came.cells (List.getD l i default)) i = (fun i => Came.cells (List.getD l i default)) i, (0 : Nat) = (0 : Nat), (0 : Int) = (0 : Int), (↑(List.length (List.map Came.Unit S, (0 : Int)).fst) : Int) = (↑(List.length (List.map Came.Unit S, (0 : Int)).fst) : Int), List.length (List.map Came.Unit S, (0 : Int)).fst = List.length (List.map Came.Unit S, (0 : Int)).fst ∧ ∀ (i : Nat), i < List.length (List.map Came.Unit S, (0 : Int)).fst → (fun i => [SV.int IntKind.i64 (List.getD (List.map Came.Unit S, (0 : Int)).fst i (0 : Int))]) i = (fun i => [SV.int IntKind.i64 (List.getD (List.map Came.Unit S, (0 : Int)).fst i (0 : Int))]) i, List.length l = List.length l ∧ ∀ (i : Nat), i < List.length l → (fun i => Came.cells (List.getD l i default)) i = (fun i => Came.cells (List.getD l i default)) i, a = a, n = n] (by kernel_rfl) (by kernel_rfl) ⟨⟨rfl, fun _ _ => rfl⟩, rfl, rfl, rfl, ⟨rfl, fun _ _ => rfl⟩, ⟨rfl, fun _ _ => rfl⟩, rfl, rfl, trivial⟩ (by omega) ?_
      intro k hk
      have hml : (S.map Came.Unit).length = S.length := List.length_map ..
      have hnl : (S.map Came.Num).length = S.length := List.length_map ..
      refine good_run 6 (obs := []) (by kernel_rfl) trivial ?_
      refine good_cond (decide ((↑k : Int) < (↑(List.length (List.map Came.Unit S, (0 : Int)).fst) : Int))) (by kernel_rfl) (fun hc1 => ?_) (fun hc1 => ?_)
      · have hlt : k < S.length := by simp only [decide_eq_true_eq] at hc1; omega
        have s15a := s15 l ((S.map Came.Unit).getD k 0)
        have hof : ofC l ((S.map Came.Unit).getD k 0) = (S.getD k default, true) := by
          rw [getD_of_lt (S.map Came.Unit) k (by omega), List.getElem_map, ← getD_of_lt S k hlt]
          exact ofC_mem hR.asc (hsm _ (getD_mem S default k hlt))
        rw [hof] at s15a
        dsimp only at s15a
        refine good_run 14 (obs := [(1 : Nat) = (1 : Nat) ∧ (0 : Int) ≤ (↑k : Int) ∧ (↑k : Int) < (↑(List.length (List.map Came.Unit S, (0 : Int)).fst) : Int)]) (by kernel_rfl) (by (first | omega | assumption | exact ⟨rfl, trivial⟩ | simp only [AllP, inK_iff, roomOK_iff, decide_eq_true_eq, Bool.and_eq_true, Bool.or_eq_true, Bool.not_eq_true', decide_eq_false_iff_not, and_true, true_and]; (first | omega | (and_intros <;> intros <;> (try and_intros) <;> first | omega | assumption | exact trivial)))) ?_
        refine good_call (c := True) (by kernel_rfl) (fun _ => SVles.refl _) (fun _ => s15a) (by kernel_rfl) ?_
        refine good_run 23 (obs := [(3 : Nat) = (3 : Nat) ∧ (0 : Nat) + (3 : Nat) ≤ (3 : Nat), (3 : Nat) = (3 : Nat) ∧ (1 : Nat) = (1 : Nat) ∧ (1 : Nat) = (1 : Nat) ∧ roomOK (k + (1 : Nat)) (8 : Nat), InK IntKind.i64 ((↑k : Int) + (1 : Int))]) (by kernel_rfl) (by (first | omega | assumption | exact ⟨rfl, trivial⟩ | simp only [AllP, inK_iff, roomOK_iff, decide_eq_true_eq, Bool.and_eq_true, Bool.or_eq_true, Bool.not_eq_true', decide_eq_false_iff_not, and_true, true_and]; (first | omega | (and_intros <;> intros <;> (try and_intros) <;> first | omega | assumption | exact trivial)))) ?_
        refine good_backJ (k + 1) [List.length l = List.length l ∧ ∀ (i : Nat), i < List.length l → (fun i => Came.cells (List.getD l i default)) i = (fun i => Came.cells (List.getD l i default)) i, k + (1 : Nat) = k + (1 : Nat) ∧ ∀ (i : Nat), i < k + (1 : Nat) → joinGet k (fun i => [SV.int IntKind.i64 (List.getD (List.map Came.Num S) i (0 : Int))]) (cutRows (1 : Nat) [SV.int IntKind.i64 (List.getD S k default).Num]) i = (fun i => [SV.int IntKind.i64 (List.getD (List.map Came.Num S) i (0 : Int))]) i, (↑k : Int) + (1 : Int) = (↑(k + (1 : Nat)) : Int), (↑(List.length (List.map Came.Unit S, (0 : Int)).fst) : Int) = (↑(List.length (List.map Came.Unit S, (0 : Int)).fst) : Int), List.length (List.map Came.Unit S, (0 : Int)).fst = List.length (List.map Came.Unit S, (0 : Int)).fst ∧ ∀ (i : Nat), i < List.length (List.map Came.Unit S, (0 : Int)).fst → (fun i => [SV.int IntKind.i64 (List.getD (List.map Came.Unit S, (0 : Int)).fst i (0 : Int))]) i = (fun i => [SV.int IntKind.i64 (List.getD (List.map Came.Unit S, (0 : Int)).fst i (0 : Int))]) i, List.length l = List.length l ∧ ∀ (i : Nat), i < List.length l → (fun i => Came.cells (List.getD l i default)) i = (fun i => Came.cells (List.getD l i default)) i, a = a, n = n] (by kernel_rfl) (by kernel_rfl) ⟨⟨rfl, fun _ _ => rfl⟩, ?_, (by omega), rfl, ⟨rfl, fun _ _ => rfl⟩, ⟨rfl, fun _ _ => rfl⟩, rfl, rfl, trivial⟩ (by omega) (by show _ < _; omega)
        · exact nums_snoc S k hlt
      · have hge : k = S.length := by simp only [decide_eq_false_iff_not] at hc1; omega
        subst hge
        clear hc1
        have hcw := comp_whole hR hia
        have q1 := s28 l a (numsC l a) (by rw [hN]; omega)
        rw [hcw] at q1
        dsimp only at q1
        have hNs : SVle (.lst 1 S.length fun i => [SV.int .i64 ((S.map Came.Num).getD i 0)]) (ints (numsC l a)) := by
          rw [hN]
          exact svle_lst hnl.symm fun i hi => SVles.refl _
        have hk9 : inI (1 + n) 1 9999 = true := by simp only [inI, Bool.and_eq_true, decide_eq_true_eq]; omega
        have ha0 : a ≠ 0 := by simp only [inI, Bool.and_eq_true, decide_eq_true_eq] at hia; omega
        have q31 := s31 (numsC l a) (1 + n) (nums_rise hR ha0) (by rw [hN]; omega)
        refine good_run 2 (obs := []) (by kernel_rfl) trivial ?_
        refine good_leaveJ (by kernel_rfl) ?_
        refine good_run 4 (obs := []) (by kernel_rfl) trivial ?_
        refine good_own (c := True) (by kernel_rfl) (by kernel_rfl) (SVles.refl _) (s13 (List.length l) (fun i => Came.cells (List.getD l i default)) (by (first | omega | assumption | exact ⟨rfl, trivial⟩ | simp only [AllP, inK_iff, roomOK_iff, decide_eq_true_eq, Bool.and_eq_true, Bool.or_eq_true, Bool.not_eq_true', decide_eq_false_iff_not, and_true, true_and]; (first | omega | (and_intros <;> intros <;> (try and_intros) <;> first | omega | assumption | exact trivial))))) ?_
        refine good_run 2 (obs := []) (by kernel_rfl) trivial ?_
        refine good_own (c := True) (by kernel_rfl) (by kernel_rfl) (SVles.refl _) (s23 (List.length S) (fun i => [SV.int IntKind.i64 (List.getD (List.map Came.Num S) i (0 : Int))]) (by (first | omega | assumption | exact ⟨rfl, trivial⟩ | simp only [AllP, inK_iff, roomOK_iff, decide_eq_true_eq, Bool.and_eq_true, Bool.or_eq_true, Bool.not_eq_true', decide_eq_false_iff_not, and_true, true_and]; (first | omega | (and_intros <;> intros <;> (try and_intros) <;> first | omega | assumption | exact trivial))))) ?_
        refine good_call (args := [SV.lst (4 : Nat) (List.length l) fun i => Came.cells (List.getD l i default), SV.int IntKind.i64 a, SV.lst (1 : Nat) (List.length S) fun i => [SV.int IntKind.i64 (List.getD (List.map Came.Num S) i (0 : Int))]]) (c := True) (by kernel_rfl) (fun _ => show SVles _ [cames l, .int .i64 a, ints (numsC l a)] from ⟨SVle.refl _, SVle.refl _, hNs, trivial⟩) (fun _ => q1) (by kernel_rfl) ?_
        refine good_run 24 (obs := [(!decide ((0 : Int) = (0 : Int))) = false ∧ True → InK IntKind.i64 ((0 : Int) + (0 : Int))]) (by kernel_rfl) (by (first | omega | assumption | exact ⟨rfl, trivial⟩ | simp only [AllP, inK_iff, roomOK_iff, decide_eq_true_eq, Bool.and_eq_true, Bool.or_eq_true, Bool.not_eq_true', decide_eq_false_iff_not, and_true, true_and]; (first | omega | (and_intros <;> intros <;> (try and_intros) <;> first | omega | assumption | exact trivial)))) ?_
        refine good_cond false (by kernel_rfl) (fun h => nomatch h) (fun _ => ?_)
        refine good_run 9 (obs := []) (by kernel_rfl) trivial ?_
        refine good_cond (decide ((0 : Int) < (↑(List.length S) : Int))) (by kernel_rfl) (fun hc1 => ?_) (fun hc1 => ?_)
        · have hp : 0 < (S.length : Int) := by simpa using hc1
          have hi0 : 0 ≤ n % (S.length : Int) := Int.emod_nonneg _ (by omega)
          have hi1 : n % (S.length : Int) < S.length := Int.emod_lt_of_pos _ hp
          clear hc1
          have q2 := comp_less hR hia (n % (S.length : Int)).toNat (by rw [hN]; omega)
          have q3 := s28 l a ((numsC l a).eraseIdx (n % (S.length : Int)).toNat) (by have := List.length_eraseIdx_le (numsC l a) (n % (S.length : Int)).toNat; rw [hN] at this ⊢; omega)
          rw [q2] at q3
          dsimp only at q3
          have hes := erase_sv (numsC l a) (n % (S.length : Int)) S.length hi0 hi1 (by rw [hN]; exact hnl)
          rw [hN] at hes q3
          refine good_run 13 (obs := [InK IntKind.i64 n, (0 : Int) ≤ n ∧ (0 : Int) < (↑(List.length S) : Int)]) (by kernel_rfl) (by (first | omega | assumption | exact ⟨rfl, trivial⟩ | simp only [AllP, inK_iff, roomOK_iff, decide_eq_true_eq, Bool.and_eq_true, Bool.or_eq_true, Bool.not_eq_true', decide_eq_false_iff_not, and_true, true_and]; (first | omega | (and_intros <;> intros <;> (try and_intros) <;> first | omega | assumption | exact trivial)))) ?_
          refine good_own (c := True) (by kernel_rfl) (by kernel_rfl) (SVles.refl _) (s13 (List.length l) (fun i => Came.cells (List.getD l i default)) (by (first | omega | assumption | exact ⟨rfl, trivial⟩ | simp only [AllP, inK_iff, roomOK_iff, decide_eq_true_eq, Bool.and_eq_true, Bool.or_eq_true, Bool.not_eq_true', decide_eq_false_iff_not, and_true, true_and]; (first | omega | (and_intros <;> intros <;> (try and_intros) <;> first | omega | assumption | exact trivial))))) ?_
          refine good_run 2 (obs := []) (by kernel_rfl) trivial ?_
          refine good_own (c := True) (by kernel_rfl) (by kernel_rfl) (SVles.refl _) (s23 (List.length S) (fun i => [SV.int IntKind.i64 (List.getD (List.map Came.Num S) i (0 : Int))]) (by (first | omega | assumption | exact ⟨rfl, trivial⟩ | simp only [AllP, inK_iff, roomOK_iff, decide_eq_true_eq, Bool.and_eq_true, Bool.or_eq_true, Bool.not_eq_true', decide_eq_false_iff_not, and_true, true_and]; (first | omega | (and_intros <;> intros <;> (try and_intros) <;> first | omega | assumption | exact trivial))))) ?_
          refine good_run 3 (obs := [InK IntKind.i64 (n % (↑(List.length S) : Int) + (1 : Int))]) (by kernel_rfl) (by (first | omega | assumption | exact ⟨rfl, trivial⟩ | simp only [AllP, inK_iff, roomOK_iff, decide_eq_true_eq, Bool.and_eq_true, Bool.or_eq_true, Bool.not_eq_true', decide_eq_false_iff_not, and_true, true_and]; (first | omega | (and_intros <;> intros <;> (try and_intros) <;> first | omega | assumption | exact trivial)))) ?_
          refine good_take (by kernel_rfl) (SVles.refl _) (SVles.refl _) (s30 (List.length S) (fun i => [SV.int IntKind.i64 (List.getD (List.map Came.Num S) i (0 : Int))]) (n % (↑(List.length S) : Int)) (n % (↑(List.length S) : Int) + (1 : Int)) (by (first | omega | assumption | exact ⟨rfl, trivial⟩ | simp only [AllP, inK_iff, roomOK_iff, decide_eq_true_eq, Bool.and_eq_true, Bool.or_eq_true, Bool.not_eq_true', decide_eq_false_iff_not, and_true, true_and]; (first | omega | (and_intros <;> intros <;> (try and_intros) <;> first | omega | assumption | exact trivial)))) (by (first | omega | assumption | exact ⟨rfl, trivial⟩ | simp only [AllP, inK_iff, roomOK_iff, decide_eq_true_eq, Bool.and_eq_true, Bool.or_eq_true, Bool.not_eq_true', decide_eq_false_iff_not, and_true, true_and]; (first | omega | (and_intros <;> intros <;> (try and_intros) <;> first | omega | assumption | exact trivial)))) (by (first | omega | assumption | exact ⟨rfl, trivial⟩ | simp only [AllP, inK_iff, roomOK_iff, decide_eq_true_eq, Bool.and_eq_true, Bool.or_eq_true, Bool.not_eq_true', decide_eq_false_iff_not, and_true, true_and]; (first | omega | (and_intros <;> intros <;> (try and_intros) <;> first | omega | assumption | exact trivial))))) ?_
          refine good_call (args := [SV.lst (4 : Nat) (List.length l) fun i => Came.cells (List.getD l i default), SV.int IntKind.i64 a, SV.lst (1 : Nat) (List.length S - (Int.toNat (n % (↑(List.length S) : Int) + (1 : Int)) - Int.toNat (n % (↑(List.length S) : Int)))) fun k => if k < Int.toNat (n % (↑(List.length S) : Int)) then [SV.int IntKind.i64 (List.getD (List.map Came.Num S) k (0 : Int))] else [SV.int IntKind.i64 (List.getD (List.map Came.Num S) (k + (Int.toNat (n % (↑(List.length S) : Int) + (1 : Int)) - Int.toNat (n % (↑(List.length S) : Int)))) (0 : Int))]]) (c := True) (by kernel_rfl) (fun _ => show SVles _ [cames l, .int .i64 a, ints ((S.map Came.Num).eraseIdx (n % (S.length : Int)).toNat)] from ⟨SVle.refl _, SVle.refl _, hes, trivial⟩) (fun _ => q3) (by kernel_rfl) ?_
          refine good_run 26 (obs := [(!decide ((0 : Int) = (0 : Int)) || !decide ((0 : Int) = (0 : Int))) = false ∧ True → InK IntKind.i64 (n % (↑(List.length S) : Int) + (1 : Int)), (!decide ((0 : Int) = (0 : Int)) || !decide ((0 : Int) = (0 : Int))) = false ∧ True → (1 : Nat) = (1 : Nat) ∧ (0 : Int) ≤ n % (↑(List.length S) : Int) ∧ n % (↑(List.length S) : Int) ≤ n % (↑(List.length S) : Int) + (1 : Int) ∧ n % (↑(List.length S) : Int) + (1 : Int) ≤ (↑(List.length S) : Int)]) (by kernel_rfl) (by (first | omega | assumption | exact ⟨rfl, trivial⟩ | simp only [AllP, inK_iff, roomOK_iff, decide_eq_true_eq, Bool.and_eq_true, Bool.or_eq_true, Bool.not_eq_true', decide_eq_false_iff_not, and_true, true_and]; (first | omega | (and_intros <;> intros <;> (try and_intros) <;> first | omega | assumption | exact trivial)))) ?_
          have hp1 := part1_sv (S.map Came.Num) (n % (S.length : Int)) hi0
          have q4 := s27 [(S.map Came.Num).getD (n % (S.length : Int)).toNat 0] [(S.map Came.Num).getD (n % (S.length : Int)).toNat 0]
          rw [decide_eq_true rfl] at q4
          refine good_call (args := [SV.lst (1 : Nat) (1 : Nat) fun i => [SV.int IntKind.i64 (List.getD [List.getD (List.map Came.Num S) (Int.toNat (n % (↑(List.length S) : Int))) (0 : Int)] i (0 : Int))], SV.lst (1 : Nat) (Int.toNat (n % (↑(List.length S) : Int) + (1 : Int)) - Int.toNat (n % (↑(List.length S) : Int))) fun i => (fun i => [SV.int IntKind.i64 (List.getD (List.map Came.Num S) i (0 : Int))]) (Int.toNat (n % (↑(List.length S) : Int)) + i)]) (c := (!decide ((0 : Int) = (0 : Int)) || !decide ((0 : Int) = (0 : Int))) = false ∧ True) (by kernel_rfl) (fun _ => show SVles _ [ints [(S.map Came.Num).getD (n % (S.length : Int)).toNat 0], ints [(S.map Came.Num).getD (n % (S.length : Int)).toNat 0]] from ⟨SVle.refl _, hp1, trivial⟩) (fun _ => q4) (by kernel_rfl) ?_
          refine good_run 5 (obs := []) (by kernel_rfl) trivial ?_
          refine good_cond false (by kernel_rfl) (fun h => nomatch h) (fun _ => ?_)
          refine good_run 13 (obs := [InK IntKind.i64 n, InK IntKind.i64 ((1 : Int) + n)]) (by kernel_rfl) (by (first | omega | assumption | exact ⟨rfl, trivial⟩ | simp only [AllP, inK_iff, roomOK_iff, decide_eq_true_eq, Bool.and_eq_true, Bool.or_eq_true, Bool.not_eq_true', decide_eq_false_iff_not, and_true, true_and]; (first | omega | (and_intros <;> intros <;> (try and_intros) <;> first | omega | assumption | exact trivial)))) ?_
          refine good_call (args := [SV.lst (1 : Nat) (List.length S) fun i => [SV.int IntKind.i64 (List.getD (List.map Came.Num S) i (0 : Int))], SV.int IntKind.i64 ((1 : Int) + n)]) (c := True) (by kernel_rfl) (fun _ => show SVles _ [ints (numsC l a), .int .i64 (1 + n)] from ⟨hNs, SVle.refl _, trivial⟩) (fun _ => q31) (by kernel_rfl) ?_
          refine good_run 13 (obs := []) (by kernel_rfl) trivial ?_
          refine good_cond (decide ((↑(atI (numsC l a) ((1 : Int) + n)) : Int) < (↑(List.length (numsC l a)) : Int)) && decide (List.getD (numsC l a) (atI (numsC l a) ((1 : Int) + n)) (0 : Int) = (1 : Int) + n)) (by kernel_rfl) (fun hc1 => ?_) (fun hc1 => ?_)
          · refine good_run 7 (obs := []) (by kernel_rfl) trivial ?_
            refine good_fin [true = true] (by kernel_rfl) ⟨rfl, trivial⟩
          · have hfn := hc1
            have hj0 : (0 : Int) ≤ (atI (numsC l a) (1 + n) : Int) := Int.natCast_nonneg _
            have hj1 : (atI (numsC l a) (1 + n) : Int) ≤ (S.length : Int) := by have := atI_le (numsC l a) (1 + n); rw [hN, hnl] at this; rw [hN]; omega
            have q5 := comp_more hR hia (1 + n) hk9 hfn
            have hins := ins_sv (S.map Came.Num) S.length (atI (numsC l a) (1 + n)) (1 + n) hnl (by omega)
            have q6 := s28 l a ((S.map Came.Num).insertIdx (atI (numsC l a) (1 + n)) (1 + n)) (by rw [List.length_insertIdx, if_pos (by omega)]; omega)
            have e5 : completeC l a ((S.map Came.Num).insertIdx (atI (numsC l a) (1 + n)) (1 + n)) = ([1 + n], [], 0) := by rw [← hN]; exact q5
            rw [e5] at q6
            dsimp only at q6
            have q7 := s27 [1 + n] [1 + n]
            rw [decide_eq_true rfl] at q7
            refine good_run 4 (obs := []) (by kernel_rfl) trivial ?_
            refine good_own (c := True) (by kernel_rfl) (by kernel_rfl) (SVles.refl _) (s13 (List.length l) (fun i => Came.cells (List.getD l i default)) (by (first | omega | assumption | exact ⟨rfl, trivial⟩ | simp only [AllP, inK_iff, roomOK_iff, decide_eq_true_eq, Bool.and_eq_true, Bool.or_eq_true, Bool.not_eq_true', decide_eq_false_iff_not, and_true, true_and]; (first | omega | (and_intros <;> intros <;> (try and_intros) <;> first | omega | assumption | exact trivial))))) ?_
            refine good_run 2 (obs := []) (by kernel_rfl) trivial ?_
            refine good_own (c := True) (by kernel_rfl) (by kernel_rfl) (SVles.refl _) (s23 (List.length S) (fun i => [SV.int IntKind.i64 (List.getD (List.map Came.Num S) i (0 : Int))]) (by (first | omega | assumption | exact ⟨rfl, trivial⟩ | simp only [AllP, inK_iff, roomOK_iff, decide_eq_true_eq, Bool.and_eq_true, Bool.or_eq_true, Bool.not_eq_true', decide_eq_false_iff_not, and_true, true_and]; (first | omega | (and_intros <;> intros <;> (try and_intros) <;> first | omega | assumption | exact trivial))))) ?_
            refine good_run 3 (obs := []) (by kernel_rfl) trivial ?_
            refine good_take (by kernel_rfl) (SVles.refl _) (SVles.refl _) (s32 (List.length S) (fun i => [SV.int IntKind.i64 (List.getD (List.map Came.Num S) i (0 : Int))]) (cutRows (1 : Nat) [SV.int IntKind.i64 ((1 : Int) + n)]) ((↑(atI (numsC l a) ((1 : Int) + n)) : Int)) (by (first | omega | assumption | exact ⟨rfl, trivial⟩ | simp only [AllP, inK_iff, roomOK_iff, decide_eq_true_eq, Bool.and_eq_true, Bool.or_eq_true, Bool.not_eq_true', decide_eq_false_iff_not, and_true, true_and]; (first | omega | (and_intros <;> intros <;> (try and_intros) <;> first | omega | assumption | exact trivial)))) (by (first | omega | assumption | exact ⟨rfl, trivial⟩ | simp only [AllP, inK_iff, roomOK_iff, decide_eq_true_eq, Bool.and_eq_true, Bool.or_eq_true, Bool.not_eq_true', decide_eq_false_iff_not, and_true, true_and]; (first | omega | (and_intros <;> intros <;> (try and_intros) <;> first | omega | assumption | exact trivial)))) (by (first | omega | assumption | exact ⟨rfl, trivial⟩ | simp only [AllP, inK_iff, roomOK_iff, decide_eq_true_eq, Bool.and_eq_true, Bool.or_eq_true, Bool.not_eq_true', decide_eq_false_iff_not, and_true, true_and]; (first | omega | (and_intros <;> intros <;> (try and_intros) <;> first | omega | assumption | exact trivial))))) ?_
            refine good_call (args := [SV.lst (4 : Nat) (List.length l) fun i => Came.cells (List.getD l i default), SV.int IntKind.i64 a, SV.lst (1 : Nat) (List.length S + (1 : Nat)) (insGet (atI (numsC l a) ((1 : Int) + n)) (cutRows (1 : Nat) [SV.int IntKind.i64 ((1 : Int) + n)] (0 : Nat)) fun i => [SV.int IntKind.i64 (List.getD (List.map Came.Num S) i (0 : Int))])]) (c := True) (by kernel_rfl) (fun _ => show SVles _ [cames l, .int .i64 a, ints ((S.map Came.Num).insertIdx (atI (numsC l a) (1 + n)) (1 + n))] from ⟨SVle.refl _, SVle.refl _, hins, trivial⟩) (fun _ => q6) (by kernel_rfl) ?_
            refine good_run 20 (obs := []) (by kernel_rfl) trivial ?_
            refine good_call (args := [SV.lst (1 : Nat) (1 : Nat) fun i => [SV.int IntKind.i64 (List.getD [(1 : Int) + n] i (0 : Int))], SV.lst (1 : Nat) (1 : Nat) (cutRows (1 : Nat) [SV.int IntKind.i64 ((1 : Int) + n)])]) (c := decide ((0 : Int) = (0 : Int)) = true ∧ True) (by kernel_rfl) (fun _ => show SVles _ [ints [1 + n], ints [1 + n]] from ⟨SVle.refl _, svle_lst rfl fun i hi => (match i, hi with | 0, _ => SVles.refl _ | i + 1, h => absurd h (by omega)), trivial⟩) (fun _ => q7) (by kernel_rfl) ?_
            refine good_run 11 (obs := []) (by kernel_rfl) trivial ?_
            refine good_fin [(decide ((0 : Int) = (0 : Int)) && true && decide ((0 : Int) = (0 : Int))) = true] (by kernel_rfl) ⟨(by rfl), trivial⟩
        · refine good_run 13 (obs := [InK IntKind.i64 n, InK IntKind.i64 ((1 : Int) + n)]) (by kernel_rfl) (by (first | omega | assumption | exact ⟨rfl, trivial⟩ | simp only [AllP, inK_iff, roomOK_iff, decide_eq_true_eq, Bool.and_eq_true, Bool.or_eq_true, Bool.not_eq_true', decide_eq_false_iff_not, and_true, true_and]; (first | omega | (and_intros <;> intros <;> (try and_intros) <;> first | omega | assumption | exact trivial)))) ?_
          refine good_call (args := [SV.lst (1 : Nat) (List.length S) fun i => [SV.int IntKind.i64 (List.getD (List.map Came.Num S) i (0 : Int))], SV.int IntKind.i64 ((1 : Int) + n)]) (c := True) (by kernel_rfl) (fun _ => show SVles _ [ints (numsC l a), .int .i64 (1 + n)] from ⟨hNs, SVle.refl _, trivial⟩) (fun _ => q31) (by kernel_rfl) ?_
          refine good_run 13 (obs := []) (by kernel_rfl) trivial ?_
          refine good_cond (decide ((↑(atI (numsC l a) ((1 : Int) + n)) : Int) < (↑(List.length (numsC l a)) : Int)) && decide (List.getD (numsC l a) (atI (numsC l a) ((1 : Int) + n)) (0 : Int) = (1 : Int) + n)) (by kernel_rfl) (fun hc2 => ?_) (fun hc2 => ?_)
          · refine good_run 7 (obs := []) (by kernel_rfl) trivial ?_
            refine good_fin [true = true] (by kernel_rfl) ⟨rfl, trivial⟩
          · have hfn := hc2
            have hj0 : (0 : Int) ≤ (atI (numsC l a) (1 + n) : Int) := Int.natCast_nonneg _
            have hj1 : (atI (numsC l a) (1 + n) : Int) ≤ (S.length : Int) := by have := atI_le (numsC l a) (1 + n); rw [hN, hnl] at this; rw [hN]; omega
            have q5 := comp_more hR hia (1 + n) hk9 hfn
            have hins := ins_sv (S.map Came.Num) S.length (atI (numsC l a) (1 + n)) (1 + n) hnl (by omega)
            have q6 := s28 l a ((S.map Came.Num).insertIdx (atI (numsC l a) (1 + n)) (1 + n)) (by rw [List.length_insertIdx, if_pos (by omega)]; omega)
            have e5 : completeC l a ((S.map Came.Num).insertIdx (atI (numsC l a) (1 + n)) (1 + n)) = ([1 + n], [], 0) := by rw [← hN]; exact q5
            rw [e5] at q6
            dsimp only at q6
            have q7 := s27 [1 + n] [1 + n]
            rw [decide_eq_true rfl] at q7
            refine good_run 4 (obs := []) (by kernel_rfl) trivial ?_
            refine good_own (c := True) (by kernel_rfl) (by kernel_rfl) (SVles.refl _) (s13 (List.length l) (fun i => Came.cells (List.getD l i default)) (by (first | omega | assumption | exact ⟨rfl, trivial⟩ | simp only [AllP, inK_iff, roomOK_iff, decide_eq_true_eq, Bool.and_eq_true, Bool.or_eq_true, Bool.not_eq_true', decide_eq_false_iff_not, and_true, true_and]; (first | omega | (and_intros <;> intros <;> (try and_intros) <;> first | omega | assumption | exact trivial))))) ?_
            refine good_run 2 (obs := []) (by kernel_rfl) trivial ?_
            refine good_own (c := True) (by kernel_rfl) (by kernel_rfl) (SVles.refl _) (s23 (List.length S) (fun i => [SV.int IntKind.i64 (List.getD (List.map Came.Num S) i (0 : Int))]) (by (first | omega | assumption | exact ⟨rfl, trivial⟩ | simp only [AllP, inK_iff, roomOK_iff, decide_eq_true_eq, Bool.and_eq_true, Bool.or_eq_true, Bool.not_eq_true', decide_eq_false_iff_not, and_true, true_and]; (first | omega | (and_intros <;> intros <;> (try and_intros) <;> first | omega | assumption | exact trivial))))) ?_
            refine good_run 3 (obs := []) (by kernel_rfl) trivial ?_
            refine good_take (by kernel_rfl) (SVles.refl _) (SVles.refl _) (s32 (List.length S) (fun i => [SV.int IntKind.i64 (List.getD (List.map Came.Num S) i (0 : Int))]) (cutRows (1 : Nat) [SV.int IntKind.i64 ((1 : Int) + n)]) ((↑(atI (numsC l a) ((1 : Int) + n)) : Int)) (by (first | omega | assumption | exact ⟨rfl, trivial⟩ | simp only [AllP, inK_iff, roomOK_iff, decide_eq_true_eq, Bool.and_eq_true, Bool.or_eq_true, Bool.not_eq_true', decide_eq_false_iff_not, and_true, true_and]; (first | omega | (and_intros <;> intros <;> (try and_intros) <;> first | omega | assumption | exact trivial)))) (by (first | omega | assumption | exact ⟨rfl, trivial⟩ | simp only [AllP, inK_iff, roomOK_iff, decide_eq_true_eq, Bool.and_eq_true, Bool.or_eq_true, Bool.not_eq_true', decide_eq_false_iff_not, and_true, true_and]; (first | omega | (and_intros <;> intros <;> (try and_intros) <;> first | omega | assumption | exact trivial)))) (by (first | omega | assumption | exact ⟨rfl, trivial⟩ | simp only [AllP, inK_iff, roomOK_iff, decide_eq_true_eq, Bool.and_eq_true, Bool.or_eq_true, Bool.not_eq_true', decide_eq_false_iff_not, and_true, true_and]; (first | omega | (and_intros <;> intros <;> (try and_intros) <;> first | omega | assumption | exact trivial))))) ?_
            refine good_call (args := [SV.lst (4 : Nat) (List.length l) fun i => Came.cells (List.getD l i default), SV.int IntKind.i64 a, SV.lst (1 : Nat) (List.length S + (1 : Nat)) (insGet (atI (numsC l a) ((1 : Int) + n)) (cutRows (1 : Nat) [SV.int IntKind.i64 ((1 : Int) + n)] (0 : Nat)) fun i => [SV.int IntKind.i64 (List.getD (List.map Came.Num S) i (0 : Int))])]) (c := True) (by kernel_rfl) (fun _ => show SVles _ [cames l, .int .i64 a, ints ((S.map Came.Num).insertIdx (atI (numsC l a) (1 + n)) (1 + n))] from ⟨SVle.refl _, SVle.refl _, hins, trivial⟩) (fun _ => q6) (by kernel_rfl) ?_
            refine good_run 20 (obs := []) (by kernel_rfl) trivial ?_
            refine good_call (args := [SV.lst (1 : Nat) (1 : Nat) fun i => [SV.int IntKind.i64 (List.getD [(1 : Int) + n] i (0 : Int))], SV.lst (1 : Nat) (1 : Nat) (cutRows (1 : Nat) [SV.int IntKind.i64 ((1 : Int) + n)])]) (c := decide ((0 : Int) = (0 : Int)) = true ∧ True) (by kernel_rfl) (fun _ => show SVles _ [ints [1 + n], ints [1 + n]] from ⟨SVle.refl _, svle_lst rfl fun i hi => (match i, hi with | 0, _ => SVles.refl _ | i + 1, h => absurd h (by omega)), trivial⟩) (fun _ => q7) (by kernel_rfl) ?_
            refine good_run 11 (obs := []) (by kernel_rfl) trivial ?_
            refine good_fin [(decide ((0 : Int) = (0 : Int)) && true && decide ((0 : Int) = (0 : Int))) = true] (by kernel_rfl) ⟨(by rfl), trivial⟩
end Go.Sx.T
