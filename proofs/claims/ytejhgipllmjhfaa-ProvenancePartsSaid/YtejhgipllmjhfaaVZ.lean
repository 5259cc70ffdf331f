/- Contracts of functions of the program, each proved by running its code symbolically (VZ). -/
import Derived.Test.YtejhgipllmjhfaaVY
namespace Go.Sx.T
open Go Go.Proofs Go.Sx
set_option maxRecDepth 100000
set_option maxHeartbeats 4000000
set_option linter.unusedVariables false
set_option linter.unusedSimpArgs false
def zeroP (l : List Came) (k : Nat) : Nat := (ownL (l.take k) 0).length
theorem zeroP_succ (l : List Came) (k : Nat) (h : k < l.length) : zeroP l (k + 1) = zeroP l k + if (l.getD k default).Acc = 0 then 1 else 0 := by
  unfold zeroP ownL
  rw [List.take_succ_eq_append_getElem h, List.filter_append, List.length_append, getD_of_lt l k h]
  by_cases e : (l[k]).Acc = 0
  · rw [if_pos e, List.filter_cons_of_pos (by simpa using e)]; rfl
  · rw [if_neg e, List.filter_cons_of_neg (by simpa using e)]; rfl
theorem zeroP_le (l : List Came) (k : Nat) (h : k ≤ l.length) : zeroP l k ≤ k := by
  have := List.length_filter_le (fun c : Came => decide (c.Acc = 0)) (l.take k)
  rw [List.length_take] at this
  unfold zeroP ownL
  omega
theorem sumA_le (l : List Came) (A : List Int) (hA : A.Nodup) (h0 : (0 : Int) ∉ A) (h : ∀ c ∈ l, c.Acc ≠ 0 → c.Acc ∈ A) (k : Nat) (hk : k ≤ A.length) : sumA l (A.take k) ≤ l.length := by
  have h1 := sumA_all A hA h0 l h
  have h2 : sumA l A = sumA l (A.take k) + sumA l (A.drop k) := by
    unfold sumA
    rw [← List.sum_append, ← List.map_append, List.take_append_drop]
  omega
def lastN (S : List Came) (j : Nat) : Int := if j = 0 then 0 else (S.getD (j - 1) default).Num
theorem lastN_succ (S : List Came) (j : Nat) : lastN S (j + 1) = (S.getD j default).Num := by
  rw [lastN, if_neg (by omega), Nat.add_sub_cancel]
theorem lastN_lt {S : List Came} (h : S.Pairwise fun x y => x.Num < y.Num) (j : Nat) (hj : j < S.length) (h1 : 1 ≤ (S.getD j default).Num) : lastN S j < (S.getD j default).Num := by
  unfold lastN
  split
  · omega
  · rw [getD_of_lt S j hj, getD_of_lt S (j - 1) (by omega)]
    exact List.pairwise_iff_getElem.1 h (j - 1) j (by omega) hj (by omega)
theorem s8 (l : List Came) : Spec Try.prog 8 [cames l] (.bool true) := by
  refine spec_of_good mixed Try.func8 F8_ok (by kernel_rfl) ?_
  refine good_run 8 (obs := []) (by kernel_rfl) trivial ?_
  refine good_call (c := True) (by kernel_rfl) (fun _ => SVles.refl _) (fun _ => s10) (by kernel_rfl) ?_
  refine good_run 8 (obs := []) (by kernel_rfl) trivial ?_
  refine good_cond (!true || decide ((20 : Int) < (↑(List.length l) : Int))) (by kernel_rfl) (fun hc1 => ?_) (fun hc1 => ?_)
  · refine good_run 2 (obs := []) (by kernel_rfl) trivial ?_
    refine good_call (c := True) (by kernel_rfl) (fun _ => SVles.refl _) (fun _ => s10) (by kernel_rfl) ?_
    refine good_run 5 (obs := []) (by kernel_rfl) trivial ?_
    refine good_fin [true = true] (by kernel_rfl) ⟨rfl, trivial⟩
  · have hl : l.length ≤ 20 := by
      simp only [Bool.not_true, Bool.false_or, decide_eq_false_iff_not, gt_iff_lt] at hc1
      omega
    clear hc1
    refine good_run 5 (obs := []) (by kernel_rfl) trivial ?_
    refine good_own (c := True) (by kernel_rfl) (by kernel_rfl) (SVles.refl _) (s13 (List.length l) (fun i => Came.cells (List.getD l i default)) (by (first | omega | assumption | exact ⟨rfl, trivial⟩ | simp only [AllP, inK_iff, roomOK_iff, decide_eq_true_eq, Bool.and_eq_true, Bool.or_eq_true, Bool.not_eq_true', decide_eq_false_iff_not, and_true, true_and]; (first | omega | (and_intros <;> intros <;> (try and_intros) <;> first | omega | assumption | exact trivial))))) ?_
    refine good_call (c := True) (by kernel_rfl) (fun _ => SVles.refl _) (fun _ => s12 (l)) (by kernel_rfl) ?_
    refine good_run 13 (obs := []) (by kernel_rfl) trivial ?_
    refine good_cond (!decide ((checkC l).snd = (0 : Int))) (by kernel_rfl) (fun hc1 => ?_) (fun hc1 => ?_)
    · refine good_run 7 (obs := []) (by kernel_rfl) trivial ?_
      refine good_fin [true = true] (by kernel_rfl) ⟨rfl, trivial⟩
    · have hR := (right_iff l).1 (by simpa using hc1)
      obtain ⟨hA1, hA2, hA3, hA4⟩ := accs_spec hR
      have hgu := gather_units hR
      have hAl : (accsC l).length ≤ l.length := by
        have h1 := foldU_len (gathC Came.Acc l (l.map Came.Unit))
        have h2 := gathP_le Came.Acc l (l.map Came.Unit) _ (Nat.le_refl _)
        rw [gathP, List.take_length, List.length_map] at h2
        exact Nat.le_trans h1 h2
      have hsum := sumA_all _ hA1 hA2 l hA3
      clear hc1
      refine good_run 15 (obs := []) (by kernel_rfl) trivial ?_
      refine good_loopJ (fun k : Nat => ⟨[(40, .sv (.int .i64 (k))), (5, .own 1), (39, LV.sv (SV.int IntKind.i64 (↑(List.length l) : Int))), (38, LV.sv (SV.lst (4 : Nat) (List.length l) fun i => Came.cells (List.getD l i default))), (0, LV.sv (SV.lst (4 : Nat) (List.length l) fun i => Came.cells (List.getD l i default)))], [Blk.row (32 : Nat) (4 : Nat) (List.length l) true fun i => Came.cells (List.getD l i default), .row 3 1 k true fun i => [.int .i64 ((l.map Came.Unit).getD i 0)]]⟩) (fun k => k ≤ l.length) (fun k => l.length - k) (0) [List.length l = List.length l ∧ ∀ (i : Nat), i < List.length l → (fun i => Came.cells (List.getD l i default)) i = (fun i => Came.cells (List.getD l i default)) i, (0 : Nat) = (0 : Nat), (0 : Int) = (0 : Int), (↑(List.length l) : Int) = (↑(List.length l) : Int), List.length l = List.length l ∧ ∀ (i : Nat), i < List.length l → (fun i => Came.cells (List.getD l i default)) i = (fun i => Came.cells (List.getD l i default)) i, List.length l = List.length l ∧ ∀ (i : Nat), i < List.length l → (fun i => Came.cells (List.getD l i default)) i = (fun i => Came.cells (List.getD l i default)) i] (by kernel_rfl) (by kernel_rfl) ⟨⟨rfl, fun _ _ => rfl⟩, rfl, rfl, rfl, ⟨rfl, fun _ _ => rfl⟩, ⟨rfl, fun _ _ => rfl⟩, trivial⟩ (by omega) ?_
      intro k hk
      refine good_run 6 (obs := []) (by kernel_rfl) trivial ?_
      refine good_cond (decide ((↑k : Int) < (↑(List.length l) : Int))) (by kernel_rfl) (fun hc1 => ?_) (fun hc1 => ?_)
      · have hlt : k < l.length := by simp only [decide_eq_true_eq] at hc1; omega
        refine good_run 26 (obs := [(4 : Nat) = (4 : Nat) ∧ (0 : Int) ≤ (↑k : Int) ∧ (↑k : Int) < (↑(List.length l) : Int), (0 : Nat) + (4 : Nat) ≤ (4 : Nat), (4 : Nat) = (4 : Nat) ∧ (0 : Nat) + (4 : Nat) ≤ (4 : Nat), (3 : Nat) = (3 : Nat) ∧ (1 : Nat) = (1 : Nat) ∧ (1 : Nat) = (1 : Nat) ∧ roomOK (k + (1 : Nat)) (8 : Nat), InK IntKind.i64 ((↑k : Int) + (1 : Int))]) (by kernel_rfl) (by (first | omega | assumption | exact ⟨rfl, trivial⟩ | simp only [AllP, inK_iff, roomOK_iff, decide_eq_true_eq, Bool.and_eq_true, Bool.or_eq_true, Bool.not_eq_true', decide_eq_false_iff_not, and_true, true_and]; (first | omega | (and_intros <;> intros <;> (try and_intros) <;> first | omega | assumption | exact trivial)))) ?_
        refine good_backJ (k + 1) [List.length l = List.length l ∧ ∀ (i : Nat), i < List.length l → (fun i => Came.cells (List.getD l i default)) i = (fun i => Came.cells (List.getD l i default)) i, k + (1 : Nat) = k + (1 : Nat) ∧ ∀ (i : Nat), i < k + (1 : Nat) → joinGet k (fun i => [SV.int IntKind.i64 (List.getD (List.map Came.Unit l) i (0 : Int))]) (cutRows (1 : Nat) [SV.int IntKind.i64 (List.getD l k default).Unit]) i = (fun i => [SV.int IntKind.i64 (List.getD (List.map Came.Unit l) i (0 : Int))]) i, (↑k : Int) + (1 : Int) = (↑(k + (1 : Nat)) : Int), (↑(List.length l) : Int) = (↑(List.length l) : Int), List.length l = List.length l ∧ ∀ (i : Nat), i < List.length l → (fun i => Came.cells (List.getD l i default)) i = (fun i => Came.cells (List.getD l i default)) i, List.length l = List.length l ∧ ∀ (i : Nat), i < List.length l → (fun i => Came.cells (List.getD l i default)) i = (fun i => Came.cells (List.getD l i default)) i] (by kernel_rfl) (by kernel_rfl) ⟨⟨rfl, fun _ _ => rfl⟩, ?_, (by omega), rfl, ⟨rfl, fun _ _ => rfl⟩, ⟨rfl, fun _ _ => rfl⟩, trivial⟩ (by omega) (by show _ < _; omega)
        · exact units_snoc l k hlt
      · have hge : k = l.length := by simp only [decide_eq_false_iff_not] at hc1; omega
        subst hge
        clear hc1
        have q22 := s22 l (l.map Came.Unit)
        rw [hgu] at q22
        dsimp only at q22
        refine good_run 2 (obs := []) (by kernel_rfl) trivial ?_
        refine good_leaveJ (by kernel_rfl) ?_
        refine good_run 4 (obs := []) (by kernel_rfl) trivial ?_
        refine good_own (c := True) (by kernel_rfl) (by kernel_rfl) (SVles.refl _) (s13 (List.length l) (fun i => Came.cells (List.getD l i default)) (by (first | omega | assumption | exact ⟨rfl, trivial⟩ | simp only [AllP, inK_iff, roomOK_iff, decide_eq_true_eq, Bool.and_eq_true, Bool.or_eq_true, Bool.not_eq_true', decide_eq_false_iff_not, and_true, true_and]; (first | omega | (and_intros <;> intros <;> (try and_intros) <;> first | omega | assumption | exact trivial))))) ?_
        refine good_run 1 (obs := []) (by kernel_rfl) trivial ?_
        refine good_call (args := [SV.lst (4 : Nat) (List.length l) fun i => Came.cells (List.getD l i default), SV.lst (1 : Nat) (List.length l) fun i => [SV.int IntKind.i64 (List.getD (List.map Came.Unit l) i (0 : Int))]]) (c := True) (by kernel_rfl) (fun _ => show SVles _ [cames l, ints (l.map Came.Unit)] from ⟨SVle.refl _, svle_lst (List.length_map ..).symm fun i hi => SVles.refl _, trivial⟩) (fun _ => q22) (by kernel_rfl) ?_
        generalize hA : accsC l = A at *
        refine good_run 14 (obs := []) (by kernel_rfl) trivial ?_
        refine good_cond false (by kernel_rfl) (fun h => nomatch h) (fun _ => ?_)
        refine good_run 15 (obs := []) (by kernel_rfl) trivial ?_
        refine good_loopJ (fun k : Nat => ⟨[(61, .sv (.int .i64 (k))), (10, .sv (.int .i64 ((sumA l (A.take k))))), (60, LV.sv (SV.int IntKind.i64 (↑(List.length A) : Int))), (59, LV.sv (SV.lst (1 : Nat) (List.length A) fun i => [SV.int IntKind.i64 (List.getD A i (0 : Int))])), (0, LV.sv (SV.lst (4 : Nat) (List.length l) fun i => Came.cells (List.getD l i default)))], []⟩) (fun k => k ≤ A.length) (fun k => A.length - k) (0) [(0 : Int) = (0 : Int), (0 : Int) = (↑(sumA l []) : Int), (↑(List.length A) : Int) = (↑(List.length A) : Int), List.length A = List.length A ∧ ∀ (i : Nat), i < List.length A → (fun i => [SV.int IntKind.i64 (List.getD A i (0 : Int))]) i = (fun i => [SV.int IntKind.i64 (List.getD A i (0 : Int))]) i, List.length l = List.length l ∧ ∀ (i : Nat), i < List.length l → (fun i => Came.cells (List.getD l i default)) i = (fun i => Came.cells (List.getD l i default)) i] (by kernel_rfl) (by kernel_rfl) ⟨rfl, (by rfl), rfl, ⟨rfl, fun _ _ => rfl⟩, ⟨rfl, fun _ _ => rfl⟩, trivial⟩ (by omega) ?_
        intro k hk
        have hsl := sumA_le l A hA1 hA2 hA3 k hk
        refine good_run 6 (obs := []) (by kernel_rfl) trivial ?_
        refine good_cond (decide ((↑k : Int) < (↑(List.length A) : Int))) (by kernel_rfl) (fun hc1 => ?_) (fun hc1 => ?_)
        · have hlt : k < A.length := by simp only [decide_eq_true_eq] at hc1; omega
          have hss := sumA_succ l A k hlt
          have hsl2 := sumA_le l A hA1 hA2 hA3 (k + 1) hlt
          obtain ⟨hia, c0, hc0, hca⟩ := hA4 _ (getD_mem A 0 k hlt)
          have hoo := order_ok hR hia
          have hne := own_ne hR (a := A.getD k 0) (by simp only [inI, Bool.and_eq_true, decide_eq_true_eq] at hia; omega)
          have hst := sort_strict hne
          have hsm : ∀ x ∈ sortN (ownL l (A.getD k 0)), x ∈ l ∧ x.Acc = A.getD k 0 ∧ 1 ≤ x.Num := fun x hx => by
            have h1 := (sortN_perm _).mem_iff.1 hx
            unfold ownL at h1
            rw [List.mem_filter] at h1
            have h2 : x.Acc = A.getD k 0 := by simpa using h1.2
            have h3 := hR.alone x h1.1
            simp only [aloneC, placedC, inI, Bool.and_eq_true, Bool.or_eq_true, decide_eq_true_eq] at h3 hia
            exact ⟨h1.1, h2, by omega⟩
          have hsn := sortN_len (ownL l (A.getD k 0))
          have hpos : 0 < (ownL l (A.getD k 0)).length := List.length_pos_of_mem (show c0 ∈ ownL l (A.getD k 0) from List.mem_filter.2 ⟨hc0, by simpa using hca⟩)
          generalize hS : sortN (ownL l (A.getD k 0)) = S at *
          have s20a := s20 l (A.getD k 0)
          rw [hoo] at s20a
          dsimp only at s20a
          have hml : (S.map Came.Unit).length = S.length := List.length_map ..
          clear hc1
          refine good_run 13 (obs := [(1 : Nat) = (1 : Nat) ∧ (0 : Int) ≤ (↑k : Int) ∧ (↑k : Int) < (↑(List.length A) : Int)]) (by kernel_rfl) (by (first | omega | assumption | exact ⟨rfl, trivial⟩ | simp only [AllP, inK_iff, roomOK_iff, decide_eq_true_eq, Bool.and_eq_true, Bool.or_eq_true, Bool.not_eq_true', decide_eq_false_iff_not, and_true, true_and]; (first | omega | (and_intros <;> intros <;> (try and_intros) <;> first | omega | assumption | exact trivial)))) ?_
          refine good_own (c := True) (by kernel_rfl) (by kernel_rfl) (SVles.refl _) (s13 (List.length l) (fun i => Came.cells (List.getD l i default)) (by (first | omega | assumption | exact ⟨rfl, trivial⟩ | simp only [AllP, inK_iff, roomOK_iff, decide_eq_true_eq, Bool.and_eq_true, Bool.or_eq_true, Bool.not_eq_true', decide_eq_false_iff_not, and_true, true_and]; (first | omega | (and_intros <;> intros <;> (try and_intros) <;> first | omega | assumption | exact trivial))))) ?_
          refine good_run 1 (obs := []) (by kernel_rfl) trivial ?_
          refine good_call (c := True) (by kernel_rfl) (fun _ => SVles.refl _) (fun _ => s20a) (by kernel_rfl) ?_
          refine good_run 19 (obs := []) (by kernel_rfl) trivial ?_
          refine good_cond (!decide ((0 : Int) = (0 : Int)) || decide ((↑(List.length (List.map Came.Unit S)) : Int) = (0 : Int))) (by kernel_rfl) (fun hc1 => ?_) (fun hc1 => ?_)
          · exfalso
            have : S.length = 0 := by simpa using hc1
            omega
          · clear hc1
            refine good_run 14 (obs := []) (by kernel_rfl) trivial ?_
            refine good_loopJ (fun j : Nat => ⟨[(81, .sv (.int .i64 (j))), (10, .sv (.int .i64 ((sumA l (A.take k) + j)))), (15, .sv (.int .i64 (lastN S j))), (80, LV.sv (SV.int IntKind.i64 (↑(List.length (List.map Came.Unit S)) : Int))), (79, LV.sv (SV.lst (1 : Nat) (List.length (List.map Came.Unit S)) fun i => [SV.int IntKind.i64 (List.getD (List.map Came.Unit S) i (0 : Int))])), (12, LV.sv (SV.int IntKind.i64 (List.getD A k (0 : Int)))), (61, LV.sv (SV.int IntKind.i64 (↑k : Int))), (60, LV.sv (SV.int IntKind.i64 (↑(List.length A) : Int))), (59, LV.sv (SV.lst (1 : Nat) (List.length A) fun i => [SV.int IntKind.i64 (List.getD A i (0 : Int))])), (0, LV.sv (SV.lst (4 : Nat) (List.length l) fun i => Came.cells (List.getD l i default)))], []⟩) (fun j => j ≤ S.length) (fun j => S.length - j) (0) [(0 : Int) = (0 : Int), (↑(sumA l (List.take k A)) : Int) = (↑(sumA l (List.take k A)) : Int) + (0 : Int), (0 : Int) = lastN S (0 : Nat), (↑(List.length (List.map Came.Unit S)) : Int) = (↑(List.length (List.map Came.Unit S)) : Int), List.length (List.map Came.Unit S) = List.length (List.map Came.Unit S) ∧ ∀ (i : Nat), i < List.length (List.map Came.Unit S) → (fun i => [SV.int IntKind.i64 (List.getD (List.map Came.Unit S) i (0 : Int))]) i = (fun i => [SV.int IntKind.i64 (List.getD (List.map Came.Unit S) i (0 : Int))]) i, List.getD A k (0 : Int) = List.getD A k (0 : Int), (↑k : Int) = (↑k : Int), (↑(List.length A) : Int) = (↑(List.length A) : Int), List.length A = List.length A ∧ ∀ (i : Nat), i < List.length A → (fun i => [SV.int IntKind.i64 (List.getD A i (0 : Int))]) i = (fun i => [SV.int IntKind.i64 (List.getD A i (0 : Int))]) i, List.length l = List.length l ∧ ∀ (i : Nat), i < List.length l → (fun i => Came.cells (List.getD l i default)) i = (fun i => Came.cells (List.getD l i default)) i] (by kernel_rfl) (by kernel_rfl) ⟨rfl, (by omega), (by rfl), rfl, ⟨rfl, fun _ _ => rfl⟩, rfl, rfl, rfl, ⟨rfl, fun _ _ => rfl⟩, ⟨rfl, fun _ _ => rfl⟩, trivial⟩ (by omega) ?_
            intro j hj
            refine good_run 6 (obs := []) (by kernel_rfl) trivial ?_
            refine good_cond (decide ((↑j : Int) < (↑(List.length (List.map Came.Unit S)) : Int))) (by kernel_rfl) (fun hc1 => ?_) (fun hc1 => ?_)
            · have hlt2 : j < S.length := by simp only [decide_eq_true_eq] at hc1; omega
              have hx := hsm (S.getD j default) (getD_mem S default j hlt2)
              have hla := lastN_lt hst j hlt2 hx.2.2
              have hls := lastN_succ S j
              have s15a := s15 l ((S.map Came.Unit).getD j 0)
              have hof : ofC l ((S.map Came.Unit).getD j 0) = (S.getD j default, true) := by
                rw [getD_of_lt (S.map Came.Unit) j (by omega), List.getElem_map, ← getD_of_lt S j hlt2]
                exact ofC_mem hR.asc hx.1
              rw [hof] at s15a
              dsimp only at s15a
              refine good_run 14 (obs := [(1 : Nat) = (1 : Nat) ∧ (0 : Int) ≤ (↑j : Int) ∧ (↑j : Int) < (↑(List.length (List.map Came.Unit S)) : Int)]) (by kernel_rfl) (by (first | omega | assumption | exact ⟨rfl, trivial⟩ | simp only [AllP, inK_iff, roomOK_iff, decide_eq_true_eq, Bool.and_eq_true, Bool.or_eq_true, Bool.not_eq_true', decide_eq_false_iff_not, and_true, true_and]; (first | omega | (and_intros <;> intros <;> (try and_intros) <;> first | omega | assumption | exact trivial)))) ?_
              refine good_call (c := True) (by kernel_rfl) (fun _ => SVles.refl _) (fun _ => s15a) (by kernel_rfl) ?_
              refine good_run 27 (obs := [(3 : Nat) = (3 : Nat) ∧ (0 : Nat) + (3 : Nat) ≤ (3 : Nat)]) (by kernel_rfl) (by (first | omega | assumption | exact ⟨rfl, trivial⟩ | simp only [AllP, inK_iff, roomOK_iff, decide_eq_true_eq, Bool.and_eq_true, Bool.or_eq_true, Bool.not_eq_true', decide_eq_false_iff_not, and_true, true_and]; (first | omega | (and_intros <;> intros <;> (try and_intros) <;> first | omega | assumption | exact trivial)))) ?_
              refine good_cond (!true || !decide ((List.getD S j default).Acc = List.getD A k (0 : Int)) || decide ((List.getD S j default).Num ≤ lastN S j)) (by kernel_rfl) (fun hc2 => ?_) (fun hc2 => ?_)
              · exfalso
                simp only [Bool.or_eq_true, decide_eq_true_eq, Bool.not_eq_true', decide_eq_false_iff_not, Bool.true_eq_false, false_or] at hc2
                omega
              · refine good_run 20 (obs := [InK IntKind.i64 ((↑(sumA l (List.take k A)) : Int) + (↑j : Int) + (1 : Int)), InK IntKind.i64 ((↑j : Int) + (1 : Int))]) (by kernel_rfl) (by (first | omega | assumption | exact ⟨rfl, trivial⟩ | simp only [AllP, inK_iff, roomOK_iff, decide_eq_true_eq, Bool.and_eq_true, Bool.or_eq_true, Bool.not_eq_true', decide_eq_false_iff_not, and_true, true_and]; (first | omega | (and_intros <;> intros <;> (try and_intros) <;> first | omega | assumption | exact trivial)))) ?_
                refine good_backJ (j + 1) [(↑j : Int) + (1 : Int) = (↑(j + (1 : Nat)) : Int), (↑(sumA l (List.take k A)) : Int) + (↑j : Int) + (1 : Int) = (↑(sumA l (List.take k A)) : Int) + (↑(j + (1 : Nat)) : Int), (List.getD S j default).Num = lastN S (j + (1 : Nat)), (↑(List.length (List.map Came.Unit S)) : Int) = (↑(List.length (List.map Came.Unit S)) : Int), List.length (List.map Came.Unit S) = List.length (List.map Came.Unit S) ∧ ∀ (i : Nat), i < List.length (List.map Came.Unit S) → (fun i => [SV.int IntKind.i64 (List.getD (List.map Came.Unit S) i (0 : Int))]) i = (fun i => [SV.int IntKind.i64 (List.getD (List.map Came.Unit S) i (0 : Int))]) i, List.getD A k (0 : Int) = List.getD A k (0 : Int), (↑k : Int) = (↑k : Int), (↑(List.length A) : Int) = (↑(List.length A) : Int), List.length A = List.length A ∧ ∀ (i : Nat), i < List.length A → (fun i => [SV.int IntKind.i64 (List.getD A i (0 : Int))]) i = (fun i => [SV.int IntKind.i64 (List.getD A i (0 : Int))]) i, List.length l = List.length l ∧ ∀ (i : Nat), i < List.length l → (fun i => Came.cells (List.getD l i default)) i = (fun i => Came.cells (List.getD l i default)) i] (by kernel_rfl) (by kernel_rfl) ⟨(by omega), (by omega), (by omega), rfl, ⟨rfl, fun _ _ => rfl⟩, rfl, rfl, rfl, ⟨rfl, fun _ _ => rfl⟩, ⟨rfl, fun _ _ => rfl⟩, trivial⟩ (by omega) (by show _ < _; omega)
            · have hge : j = S.length := by simp only [decide_eq_false_iff_not] at hc1; omega
              subst hge
              refine good_run 2 (obs := []) (by kernel_rfl) trivial ?_
              refine good_leaveJ (by kernel_rfl) ?_
              refine good_run 7 (obs := [InK IntKind.i64 ((↑k : Int) + (1 : Int))]) (by kernel_rfl) (by (first | omega | assumption | exact ⟨rfl, trivial⟩ | simp only [AllP, inK_iff, roomOK_iff, decide_eq_true_eq, Bool.and_eq_true, Bool.or_eq_true, Bool.not_eq_true', decide_eq_false_iff_not, and_true, true_and]; (first | omega | (and_intros <;> intros <;> (try and_intros) <;> first | omega | assumption | exact trivial)))) ?_
              refine good_backJ (k + 1) [(↑k : Int) + (1 : Int) = (↑(k + (1 : Nat)) : Int), (↑(sumA l (List.take k A)) : Int) + (↑(List.length S) : Int) = (↑(sumA l (List.take (k + (1 : Nat)) A)) : Int), (↑(List.length A) : Int) = (↑(List.length A) : Int), List.length A = List.length A ∧ ∀ (i : Nat), i < List.length A → (fun i => [SV.int IntKind.i64 (List.getD A i (0 : Int))]) i = (fun i => [SV.int IntKind.i64 (List.getD A i (0 : Int))]) i, List.length l = List.length l ∧ ∀ (i : Nat), i < List.length l → (fun i => Came.cells (List.getD l i default)) i = (fun i => Came.cells (List.getD l i default)) i] (by kernel_rfl) (by kernel_rfl) ⟨(by omega), (by omega), rfl, ⟨rfl, fun _ _ => rfl⟩, ⟨rfl, fun _ _ => rfl⟩, trivial⟩ (by omega) (by show _ < _; omega)
        · have hge : k = A.length := by simp only [decide_eq_false_iff_not] at hc1; omega
          subst hge
          rw [List.take_length] at hsl ⊢
          clear hc1
          refine good_run 2 (obs := []) (by kernel_rfl) trivial ?_
          refine good_leaveJ (by kernel_rfl) ?_
          refine good_run 10 (obs := []) (by kernel_rfl) trivial ?_
          refine good_loopJ (fun j : Nat => ⟨[(113, .sv (.int .i64 (j))), (10, .sv (.int .i64 ((sumA l A + zeroP l j)))), (112, LV.sv (SV.int IntKind.i64 (↑(List.length l) : Int))), (111, LV.sv (SV.lst (4 : Nat) (List.length l) fun i => Came.cells (List.getD l i default))), (0, LV.sv (SV.lst (4 : Nat) (List.length l) fun i => Came.cells (List.getD l i default)))], []⟩) (fun j => j ≤ l.length) (fun j => l.length - j) (0) [(0 : Int) = (0 : Int), (↑(sumA l A) : Int) = (↑(sumA l A) : Int) + (↑(zeroP l (0 : Nat)) : Int), (↑(List.length l) : Int) = (↑(List.length l) : Int), List.length l = List.length l ∧ ∀ (i : Nat), i < List.length l → (fun i => Came.cells (List.getD l i default)) i = (fun i => Came.cells (List.getD l i default)) i, List.length l = List.length l ∧ ∀ (i : Nat), i < List.length l → (fun i => Came.cells (List.getD l i default)) i = (fun i => Came.cells (List.getD l i default)) i] (by kernel_rfl) (by kernel_rfl) ⟨rfl, (by rfl), rfl, ⟨rfl, fun _ _ => rfl⟩, ⟨rfl, fun _ _ => rfl⟩, trivial⟩ (by omega) ?_
          intro j hj
          have hzl := zeroP_le l j hj
          refine good_run 6 (obs := []) (by kernel_rfl) trivial ?_
          refine good_cond (decide ((↑j : Int) < (↑(List.length l) : Int))) (by kernel_rfl) (fun hc1 => ?_) (fun hc1 => ?_)
          · have hlt : j < l.length := by simp only [decide_eq_true_eq] at hc1; omega
            have hzs := zeroP_succ l j hlt
            refine good_run 19 (obs := [(4 : Nat) = (4 : Nat) ∧ (0 : Int) ≤ (↑j : Int) ∧ (↑j : Int) < (↑(List.length l) : Int), (0 : Nat) + (4 : Nat) ≤ (4 : Nat), (4 : Nat) = (4 : Nat) ∧ (0 : Nat) + (4 : Nat) ≤ (4 : Nat)]) (by kernel_rfl) (by (first | omega | assumption | exact ⟨rfl, trivial⟩ | simp only [AllP, inK_iff, roomOK_iff, decide_eq_true_eq, Bool.and_eq_true, Bool.or_eq_true, Bool.not_eq_true', decide_eq_false_iff_not, and_true, true_and]; (first | omega | (and_intros <;> intros <;> (try and_intros) <;> first | omega | assumption | exact trivial)))) ?_
            refine good_cond (decide ((List.getD l j default).Acc = (0 : Int))) (by kernel_rfl) (fun hc2 => ?_) (fun hc2 => ?_)
            · rw [if_pos (by simpa using hc2)] at hzs
              refine good_run 12 (obs := [InK IntKind.i64 ((↑(sumA l A) : Int) + (↑(zeroP l j) : Int) + (1 : Int)), InK IntKind.i64 ((↑j : Int) + (1 : Int))]) (by kernel_rfl) (by (first | omega | assumption | exact ⟨rfl, trivial⟩ | simp only [AllP, inK_iff, roomOK_iff, decide_eq_true_eq, Bool.and_eq_true, Bool.or_eq_true, Bool.not_eq_true', decide_eq_false_iff_not, and_true, true_and]; (first | omega | (and_intros <;> intros <;> (try and_intros) <;> first | omega | assumption | exact trivial)))) ?_
              refine good_backJ (j + 1) [(↑j : Int) + (1 : Int) = (↑(j + (1 : Nat)) : Int), (↑(sumA l A) : Int) + (↑(zeroP l j) : Int) + (1 : Int) = (↑(sumA l A) : Int) + (↑(zeroP l (j + (1 : Nat))) : Int), (↑(List.length l) : Int) = (↑(List.length l) : Int), List.length l = List.length l ∧ ∀ (i : Nat), i < List.length l → (fun i => Came.cells (List.getD l i default)) i = (fun i => Came.cells (List.getD l i default)) i, List.length l = List.length l ∧ ∀ (i : Nat), i < List.length l → (fun i => Came.cells (List.getD l i default)) i = (fun i => Came.cells (List.getD l i default)) i] (by kernel_rfl) (by kernel_rfl) ⟨(by omega), (by omega), rfl, ⟨rfl, fun _ _ => rfl⟩, ⟨rfl, fun _ _ => rfl⟩, trivial⟩ (by omega) (by show _ < _; omega)
            · rw [if_neg (by simpa using hc2)] at hzs
              refine good_run 7 (obs := [InK IntKind.i64 ((↑j : Int) + (1 : Int))]) (by kernel_rfl) (by (first | omega | assumption | exact ⟨rfl, trivial⟩ | simp only [AllP, inK_iff, roomOK_iff, decide_eq_true_eq, Bool.and_eq_true, Bool.or_eq_true, Bool.not_eq_true', decide_eq_false_iff_not, and_true, true_and]; (first | omega | (and_intros <;> intros <;> (try and_intros) <;> first | omega | assumption | exact trivial)))) ?_
              refine good_backJ (j + 1) [(↑j : Int) + (1 : Int) = (↑(j + (1 : Nat)) : Int), (↑(sumA l A) : Int) + (↑(zeroP l j) : Int) = (↑(sumA l A) : Int) + (↑(zeroP l (j + (1 : Nat))) : Int), (↑(List.length l) : Int) = (↑(List.length l) : Int), List.length l = List.length l ∧ ∀ (i : Nat), i < List.length l → (fun i => Came.cells (List.getD l i default)) i = (fun i => Came.cells (List.getD l i default)) i, List.length l = List.length l ∧ ∀ (i : Nat), i < List.length l → (fun i => Came.cells (List.getD l i default)) i = (fun i => Came.cells (List.getD l i default)) i] (by kernel_rfl) (by kernel_rfl) ⟨(by omega), (by omega), rfl, ⟨rfl, fun _ _ => rfl⟩, ⟨rfl, fun _ _ => rfl⟩, trivial⟩ (by omega) (by show _ < _; omega)
          · have hge : j = l.length := by simp only [decide_eq_false_iff_not] at hc1; omega
            subst hge
            have hzz : zeroP l l.length = (ownL l 0).length := by rw [zeroP, List.take_length]
            refine good_run 2 (obs := []) (by kernel_rfl) trivial ?_
            refine good_leaveJ (by kernel_rfl) ?_
            refine good_run 11 (obs := []) (by kernel_rfl) trivial ?_
            refine good_fin [decide ((↑(sumA l A) : Int) + (↑(zeroP l (List.length l)) : Int) = (↑(List.length l) : Int)) = true] (by kernel_rfl) ⟨?_, trivial⟩
            simp only [decide_eq_true_eq]
            omega
end Go.Sx.T
