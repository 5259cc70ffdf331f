/- Contracts of functions of the program, each proved by running its code symbolically (VO). -/
import Derived.Test.YtejhgipllmjhfaaVN
namespace Go.Sx.T
open Go Go.Proofs Go.Sx
set_option maxRecDepth 100000
set_option maxHeartbeats 4000000
set_option linter.unusedVariables false
set_option linter.unusedSimpArgs false
theorem any_contains (l : List Int) (u : Int) : (l.any fun x => decide (x = u)) = l.contains u := by
  rw [Bool.eq_iff_iff, List.any_eq_true, List.contains_iff_mem]
  constructor
  · rintro ⟨x, hx, e⟩
    have : x = u := by simpa using e
    exact this ▸ hx
  · intro h; exact ⟨u, h, by simp⟩
theorem miss_kF (xs ns : List Int) (n : Nat) : missK (kF xs) ns n = missK (foldU xs) ns n := by
  unfold missK
  congr 1
  funext x
  congr 1
  rw [Bool.eq_iff_iff, List.contains_iff_mem, List.contains_iff_mem, (kF_spec xs).2.1, (foldU_spec xs).2]
theorem rest_kF (xs ns : List Int) : isort (restK (kF xs) ns ns.length) = missK ns (foldU xs) (foldU xs).length := by
  obtain ⟨h1, h2, _⟩ := kF_spec xs
  obtain ⟨h3, h4⟩ := foldU_spec xs
  have h5 : (foldU xs).Nodup := h3.imp (fun h => by omega)
  have e : missK ns (foldU xs) (foldU xs).length = (foldU xs).filter fun x => !ns.contains x := by rw [missK, List.take_length]
  have e2 : restK (kF xs) ns ns.length = (kF xs).filter fun x => !ns.contains x := by rw [restK, List.take_length]
  rw [e, e2]
  refine List.Perm.eq_of_pairwise (le := (· ≤ ·)) (fun x y _ _ h1 h2 => Int.le_antisymm h1 h2) (isort_sorted _) ((h3.imp (fun h => by omega)).sublist List.filter_sublist) ((isort_perm _).trans ?_)
  refine (List.perm_ext_iff_of_nodup (h1.sublist List.filter_sublist) (h5.sublist List.filter_sublist)).2 fun x => ?_
  rw [List.mem_filter, List.mem_filter, h2, h4]
theorem s29 (l : List Came) (a : Int) (ns : List Int) (hnl : ns.length ≤ 100000) : Spec Try.prog 29 [cames l, .int .i64 a, ints ns] (.tup [ints (completeC l a ns).1, ints (completeC l a ns).2.1, .int .i64 (completeC l a ns).2.2]) := by
  refine spec_of_good mixed Try.func29 F29_ok (by kernel_rfl) ?_
  refine good_run 11 (obs := []) (by kernel_rfl) trivial ?_
  refine good_call (c := True) (by kernel_rfl) (fun _ => SVles.refl _) (fun _ => s44 (l)) (by kernel_rfl) ?_
  refine good_run 3 (obs := []) (by kernel_rfl) trivial ?_
  refine good_cond (!decide ((checkC l).snd = (0 : Int))) (by kernel_rfl) (fun hc1 => ?_) (fun hc1 => ?_)
  · have e : completeC l a ns = ([], [], 1) := if_pos (by simpa using hc1)
    rw [e]
    refine good_run 9 (obs := []) (by kernel_rfl) trivial ?_
    refine good_fin [(0 : Nat) = (0 : Nat), (0 : Nat) = (0 : Nat), (1 : Int) = (1 : Int)] (by kernel_rfl) ⟨rfl, rfl, rfl, trivial⟩
  · have hc : (checkC l).2 = 0 := by simpa using hc1
    have hll := ((right_iff l).1 hc).len
    clear hc1
    refine good_run 5 (obs := []) (by kernel_rfl) trivial ?_
    refine good_call (c := True) (by kernel_rfl) (fun _ => SVles.refl _) (fun _ => s50 (a) ((1 : Int)) ((1073741824 : Int))) (by kernel_rfl) ?_
    refine good_run 3 (obs := []) (by kernel_rfl) trivial ?_
    refine good_cond (!inI a (1 : Int) (1073741824 : Int)) (by kernel_rfl) (fun hc1 => ?_) (fun hc1 => ?_)
    · have e : completeC l a ns = ([], [], 2) := by rw [completeC, if_neg (by simp [hc]), if_pos (by simpa using hc1)]
      rw [e]
      refine good_run 9 (obs := []) (by kernel_rfl) trivial ?_
      refine good_fin [(0 : Nat) = (0 : Nat), (0 : Nat) = (0 : Nat), (2 : Int) = (2 : Int)] (by kernel_rfl) ⟨rfl, rfl, rfl, trivial⟩
    · have hia : ¬ inI a 1 1073741824 = false := by simpa using hc1
      clear hc1
      refine good_run 8 (obs := []) (by kernel_rfl) trivial ?_
      refine good_loopJ (fun k : Nat => ⟨[(9, .sv (.int .i64 (k))), (0, LV.sv (SV.lst (4 : Nat) (List.length l) fun i => Came.cells (List.getD l i default))), (1, LV.sv (SV.int IntKind.i64 a)), (2, LV.sv (SV.lst (1 : Nat) (List.length ns) fun i => [SV.int IntKind.i64 (List.getD ns i (0 : Int))]))], []⟩) (fun k => k ≤ ns.length ∧ ∀ j, j < k → badN ns j = false) (fun k => ns.length - k) (0) [(0 : Int) = (0 : Int), List.length l = List.length l ∧ ∀ (i : Nat), i < List.length l → (fun i => Came.cells (List.getD l i default)) i = (fun i => Came.cells (List.getD l i default)) i, a = a, List.length ns = List.length ns ∧ ∀ (i : Nat), i < List.length ns → (fun i => [SV.int IntKind.i64 (List.getD ns i (0 : Int))]) i = (fun i => [SV.int IntKind.i64 (List.getD ns i (0 : Int))]) i] (by kernel_rfl) (by kernel_rfl) ⟨rfl, ⟨rfl, fun _ _ => rfl⟩, rfl, ⟨rfl, fun _ _ => rfl⟩, trivial⟩ ⟨by omega, by omega⟩ ?_
      intro k hk
      have hz : 0 < k → ((k : Int) - 1).toNat = k - 1 := fun h => by omega
      have hcond : (!inI (ns.getD k 0) 1 9999 || (decide (0 < (k : Int)) && decide (ns.getD k 0 ≤ ns.getD ((k : Int) - 1).toNat 0))) = badN ns k := by
        unfold badN
        rcases Nat.eq_zero_or_pos k with h | h
        · subst h; rfl
        · rw [hz h]
      refine good_run 9 (obs := []) (by kernel_rfl) trivial ?_
      refine good_cond (decide ((↑k : Int) < (↑(List.length ns) : Int))) (by kernel_rfl) (fun hc1 => ?_) (fun hc1 => ?_)
      · have hlt : k < ns.length := by simp only [decide_eq_true_eq] at hc1; omega
        refine good_run 9 (obs := [True → (1 : Nat) = (1 : Nat) ∧ (0 : Int) ≤ (↑k : Int) ∧ (↑k : Int) < (↑(List.length ns) : Int)]) (by kernel_rfl) (by (first | omega | assumption | exact ⟨rfl, trivial⟩ | simp only [AllP, inK_iff, roomOK_iff, decide_eq_true_eq, Bool.and_eq_true, Bool.or_eq_true, Bool.not_eq_true', decide_eq_false_iff_not, and_true, true_and]; (first | omega | (and_intros <;> intros <;> (try and_intros) <;> first | omega | assumption | exact trivial)))) ?_
        refine good_call (c := True) (by kernel_rfl) (fun _ => SVles.refl _) (fun _ => s50 (List.getD ns k (0 : Int)) ((1 : Int)) ((9999 : Int))) (by kernel_rfl) ?_
        refine good_run 19 (obs := [decide ((0 : Int) < (↑k : Int)) = true ∧ (!inI (List.getD ns k (0 : Int)) (1 : Int) (9999 : Int)) = false ∧ True → (1 : Nat) = (1 : Nat) ∧ (0 : Int) ≤ (↑k : Int) ∧ (↑k : Int) < (↑(List.length ns) : Int), decide ((0 : Int) < (↑k : Int)) = true ∧ (!inI (List.getD ns k (0 : Int)) (1 : Int) (9999 : Int)) = false ∧ True → InK IntKind.i64 ((↑k : Int) - (1 : Int)), decide ((0 : Int) < (↑k : Int)) = true ∧ (!inI (List.getD ns k (0 : Int)) (1 : Int) (9999 : Int)) = false ∧ True → (1 : Nat) = (1 : Nat) ∧ (0 : Int) ≤ (↑k : Int) - (1 : Int) ∧ (↑k : Int) - (1 : Int) < (↑(List.length ns) : Int)]) (by kernel_rfl) (by (first | omega | assumption | exact ⟨rfl, trivial⟩ | simp only [AllP, inK_iff, roomOK_iff, decide_eq_true_eq, Bool.and_eq_true, Bool.or_eq_true, Bool.not_eq_true', decide_eq_false_iff_not, and_true, true_and]; (first | omega | (and_intros <;> intros <;> (try and_intros) <;> first | omega | assumption | exact trivial)))) ?_
        refine good_cond (!inI (List.getD ns k (0 : Int)) (1 : Int) (9999 : Int) || decide ((0 : Int) < (↑k : Int)) && decide (List.getD ns k (0 : Int) ≤ List.getD ns (Int.toNat ((↑k : Int) - (1 : Int))) (0 : Int))) (by kernel_rfl) (fun hc2 => ?_) (fun hc2 => ?_)
        · rw [hcond] at hc2
          have e : completeC l a ns = ([], [], 5) := by rw [completeC, if_neg (by simp [hc]), if_neg hia, if_pos (okN_not hlt hc2)]
          rw [e]
          refine good_run 10 (obs := []) (by kernel_rfl) trivial ?_
          refine good_leaveJ (by kernel_rfl) ?_
          refine good_run 2 (obs := []) (by kernel_rfl) trivial ?_
          refine good_fin [(0 : Nat) = (0 : Nat), (0 : Nat) = (0 : Nat), (5 : Int) = (5 : Int)] (by kernel_rfl) ⟨rfl, rfl, rfl, trivial⟩
        · rw [hcond] at hc2
          have hn : k + 1 ≤ ns.length ∧ ∀ j, j < k + 1 → badN ns j = false := ⟨hlt, fun j hj => by
            rcases Nat.lt_or_ge j k with h | h
            · exact hk.2 j h
            · have : j = k := by omega
              subst this
              exact hc2⟩
          refine good_run 8 (obs := [InK IntKind.i64 ((↑k : Int) + (1 : Int))]) (by kernel_rfl) (by (first | omega | assumption | exact ⟨rfl, trivial⟩ | simp only [AllP, inK_iff, roomOK_iff, decide_eq_true_eq, Bool.and_eq_true, Bool.or_eq_true, Bool.not_eq_true', decide_eq_false_iff_not, and_true, true_and]; (first | omega | (and_intros <;> intros <;> (try and_intros) <;> first | omega | assumption | exact trivial)))) ?_
          refine good_backJ (k + 1) [(↑k : Int) + (1 : Int) = (↑(k + (1 : Nat)) : Int), List.length l = List.length l ∧ ∀ (i : Nat), i < List.length l → (fun i => Came.cells (List.getD l i default)) i = (fun i => Came.cells (List.getD l i default)) i, a = a, List.length ns = List.length ns ∧ ∀ (i : Nat), i < List.length ns → (fun i => [SV.int IntKind.i64 (List.getD ns i (0 : Int))]) i = (fun i => [SV.int IntKind.i64 (List.getD ns i (0 : Int))]) i] (by kernel_rfl) (by kernel_rfl) ⟨(by omega), ⟨rfl, fun _ _ => rfl⟩, rfl, ⟨rfl, fun _ _ => rfl⟩, trivial⟩ (by omega) (by show _ < _; omega)
      · have hge : k = ns.length := by simp only [decide_eq_false_iff_not] at hc1; omega
        subst hge
        have e : completeC l a ns = (missK (foldU (ownN l a)) ns ns.length, missK ns (foldU (ownN l a)) (foldU (ownN l a)).length, 0) := by
          rw [completeC, if_neg (by simp [hc]), if_neg hia, if_neg (by rw [okN_of hk.2]; decide), miss_kF, rest_kF]
        rw [e]
        clear hc1 hk hcond hz
        refine good_run 2 (obs := []) (by kernel_rfl) trivial ?_
        refine good_leaveJ (by kernel_rfl) ?_
        refine good_run 15 (obs := []) (by kernel_rfl) trivial ?_
        refine good_loopJ (fun k : Nat => ⟨[(13, .sv (.int .i64 (k))), (10, .sv (ints (foldU (ownP l a k)))), (12, LV.sv (SV.val (Value.slice none (0 : Nat) (0 : Nat)))), (11, LV.sv (SV.val (Value.slice none (0 : Nat) (0 : Nat)))), (0, LV.sv (SV.lst (4 : Nat) (List.length l) fun i => Came.cells (List.getD l i default))), (1, LV.sv (SV.int IntKind.i64 a)), (2, LV.sv (SV.lst (1 : Nat) (List.length ns) fun i => [SV.int IntKind.i64 (List.getD ns i (0 : Int))]))], []⟩) (fun k => k ≤ l.length) (fun k => l.length - k) (0) [(0 : Int) = (0 : Int), (0 : Nat) = (0 : Nat), SVle (SV.val (Value.slice none (0 : Nat) (0 : Nat))) (SV.val (Value.slice none (0 : Nat) (0 : Nat))), SVle (SV.val (Value.slice none (0 : Nat) (0 : Nat))) (SV.val (Value.slice none (0 : Nat) (0 : Nat))), List.length l = List.length l ∧ ∀ (i : Nat), i < List.length l → (fun i => Came.cells (List.getD l i default)) i = (fun i => Came.cells (List.getD l i default)) i, a = a, List.length ns = List.length ns ∧ ∀ (i : Nat), i < List.length ns → (fun i => [SV.int IntKind.i64 (List.getD ns i (0 : Int))]) i = (fun i => [SV.int IntKind.i64 (List.getD ns i (0 : Int))]) i] (by kernel_rfl) (by kernel_rfl) ⟨rfl, rfl, SVle.refl _, SVle.refl _, ⟨rfl, fun _ _ => rfl⟩, rfl, ⟨rfl, fun _ _ => rfl⟩, trivial⟩ (by omega) ?_
        intro k hk
        have h1 := ownP_le l a k hk
        have h2 := foldU_len (ownP l a k)
        refine good_run 9 (obs := []) (by kernel_rfl) trivial ?_
        refine good_cond (decide ((↑k : Int) < (↑(List.length l) : Int))) (by kernel_rfl) (fun hc1 => ?_) (fun hc1 => ?_)
        · have hlt : k < l.length := by simp only [decide_eq_true_eq] at hc1; omega
          have hst := ownP_succ l a k hlt
          refine good_run 15 (obs := [(4 : Nat) = (4 : Nat) ∧ (0 : Int) ≤ (↑k : Int) ∧ (↑k : Int) < (↑(List.length l) : Int)]) (by kernel_rfl) (by (first | omega | assumption | exact ⟨rfl, trivial⟩ | simp only [AllP, inK_iff, roomOK_iff, decide_eq_true_eq, Bool.and_eq_true, Bool.or_eq_true, Bool.not_eq_true', decide_eq_false_iff_not, and_true, true_and]; (first | omega | (and_intros <;> intros <;> (try and_intros) <;> first | omega | assumption | exact trivial)))) ?_
          refine good_cond (decide ((List.getD l k default).Acc = a)) (by kernel_rfl) (fun hc2 => ?_) (fun hc2 => ?_)
          · rw [if_pos hc2] at hst
            have hu : foldU (ownP l a (k + 1)) = insU (foldU (ownP l a k)) (l.getD k default).Num := by rw [hst, foldU_snoc]
            refine good_run 8 (obs := [(4 : Nat) = (4 : Nat) ∧ (0 : Int) ≤ (↑k : Int) ∧ (↑k : Int) < (↑(List.length l) : Int)]) (by kernel_rfl) (by (first | omega | assumption | exact ⟨rfl, trivial⟩ | simp only [AllP, inK_iff, roomOK_iff, decide_eq_true_eq, Bool.and_eq_true, Bool.or_eq_true, Bool.not_eq_true', decide_eq_false_iff_not, and_true, true_and]; (first | omega | (and_intros <;> intros <;> (try and_intros) <;> first | omega | assumption | exact trivial)))) ?_
            refine good_call (c := True) (by kernel_rfl) (fun _ => SVles.refl _) (fun _ => s56 (foldU (ownP l a k)) ((List.getD l k default).Num) (by (first | omega | assumption | exact ⟨rfl, trivial⟩ | simp only [AllP, inK_iff, roomOK_iff, decide_eq_true_eq, Bool.and_eq_true, Bool.or_eq_true, Bool.not_eq_true', decide_eq_false_iff_not, and_true, true_and]; (first | omega | (and_intros <;> intros <;> (try and_intros) <;> first | omega | assumption | exact trivial))))) (by kernel_rfl) ?_
            refine good_run 10 (obs := [InK IntKind.i64 ((↑k : Int) + (1 : Int))]) (by kernel_rfl) (by (first | omega | assumption | exact ⟨rfl, trivial⟩ | simp only [AllP, inK_iff, roomOK_iff, decide_eq_true_eq, Bool.and_eq_true, Bool.or_eq_true, Bool.not_eq_true', decide_eq_false_iff_not, and_true, true_and]; (first | omega | (and_intros <;> intros <;> (try and_intros) <;> first | omega | assumption | exact trivial)))) ?_
            refine good_backJ (k + 1) [(↑k : Int) + (1 : Int) = (↑(k + (1 : Nat)) : Int), List.length (insU (foldU (ownP l a k)) (List.getD l k default).Num) = List.length (foldU (ownP l a (k + (1 : Nat)))) ∧ ∀ (i : Nat), i < List.length (insU (foldU (ownP l a k)) (List.getD l k default).Num) → (fun i => [SV.int IntKind.i64 (List.getD (insU (foldU (ownP l a k)) (List.getD l k default).Num) i (0 : Int))]) i = (fun i => [SV.int IntKind.i64 (List.getD (foldU (ownP l a (k + (1 : Nat)))) i (0 : Int))]) i, SVle (SV.val (Value.slice none (0 : Nat) (0 : Nat))) (SV.val (Value.slice none (0 : Nat) (0 : Nat))), SVle (SV.val (Value.slice none (0 : Nat) (0 : Nat))) (SV.val (Value.slice none (0 : Nat) (0 : Nat))), List.length l = List.length l ∧ ∀ (i : Nat), i < List.length l → (fun i => Came.cells (List.getD l i default)) i = (fun i => Came.cells (List.getD l i default)) i, a = a, List.length ns = List.length ns ∧ ∀ (i : Nat), i < List.length ns → (fun i => [SV.int IntKind.i64 (List.getD ns i (0 : Int))]) i = (fun i => [SV.int IntKind.i64 (List.getD ns i (0 : Int))]) i] (by kernel_rfl) (by kernel_rfl) ⟨(by omega), ?_, SVle.refl _, SVle.refl _, ⟨rfl, fun _ _ => rfl⟩, rfl, ⟨rfl, fun _ _ => rfl⟩, trivial⟩ (by omega) (by show _ < _; omega)
            · rw [hu]; exact ⟨rfl, fun _ _ => rfl⟩
          · rw [if_neg (by rw [hc2]; decide)] at hst
            refine good_run 8 (obs := [InK IntKind.i64 ((↑k : Int) + (1 : Int))]) (by kernel_rfl) (by (first | omega | assumption | exact ⟨rfl, trivial⟩ | simp only [AllP, inK_iff, roomOK_iff, decide_eq_true_eq, Bool.and_eq_true, Bool.or_eq_true, Bool.not_eq_true', decide_eq_false_iff_not, and_true, true_and]; (first | omega | (and_intros <;> intros <;> (try and_intros) <;> first | omega | assumption | exact trivial)))) ?_
            refine good_backJ (k + 1) [(↑k : Int) + (1 : Int) = (↑(k + (1 : Nat)) : Int), List.length (foldU (ownP l a k)) = List.length (foldU (ownP l a (k + (1 : Nat)))) ∧ ∀ (i : Nat), i < List.length (foldU (ownP l a k)) → (fun i => [SV.int IntKind.i64 (List.getD (foldU (ownP l a k)) i (0 : Int))]) i = (fun i => [SV.int IntKind.i64 (List.getD (foldU (ownP l a (k + (1 : Nat)))) i (0 : Int))]) i, SVle (SV.val (Value.slice none (0 : Nat) (0 : Nat))) (SV.val (Value.slice none (0 : Nat) (0 : Nat))), SVle (SV.val (Value.slice none (0 : Nat) (0 : Nat))) (SV.val (Value.slice none (0 : Nat) (0 : Nat))), List.length l = List.length l ∧ ∀ (i : Nat), i < List.length l → (fun i => Came.cells (List.getD l i default)) i = (fun i => Came.cells (List.getD l i default)) i, a = a, List.length ns = List.length ns ∧ ∀ (i : Nat), i < List.length ns → (fun i => [SV.int IntKind.i64 (List.getD ns i (0 : Int))]) i = (fun i => [SV.int IntKind.i64 (List.getD ns i (0 : Int))]) i] (by kernel_rfl) (by kernel_rfl) ⟨(by omega), ?_, SVle.refl _, SVle.refl _, ⟨rfl, fun _ _ => rfl⟩, rfl, ⟨rfl, fun _ _ => rfl⟩, trivial⟩ (by omega) (by show _ < _; omega)
            · rw [hst]; exact ⟨rfl, fun _ _ => rfl⟩
        · have hge : k = l.length := by simp only [decide_eq_false_iff_not] at hc1; omega
          subst hge
          rw [ownP_end] at h1 h2 ⊢
          clear hc1 hk
          generalize hK : foldU (ownN l a) = K at h2 ⊢
          have hkl : K.length ≤ 256 := by omega
          refine good_run 2 (obs := []) (by kernel_rfl) trivial ?_
          refine good_leaveJ (by kernel_rfl) ?_
          refine good_run 8 (obs := []) (by kernel_rfl) trivial ?_
          refine good_loopJ (fun j : Nat => ⟨[(14, .sv (.int .i64 (j))), (11, .own 0), (10, LV.sv (SV.lst (1 : Nat) (List.length K) fun i => [SV.int IntKind.i64 (List.getD K i (0 : Int))])), (12, LV.sv (SV.val (Value.slice none (0 : Nat) (0 : Nat)))), (2, LV.sv (SV.lst (1 : Nat) (List.length ns) fun i => [SV.int IntKind.i64 (List.getD ns i (0 : Int))]))], [.row 3 1 (missK K ns j).length true fun i => [.int .i64 ((missK K ns j).getD i 0)]]⟩) (fun j => j ≤ ns.length) (fun j => ns.length - j) (0) [(0 : Nat) = (0 : Nat), (0 : Int) = (0 : Int), List.length K = List.length K ∧ ∀ (i : Nat), i < List.length K → (fun i => [SV.int IntKind.i64 (List.getD K i (0 : Int))]) i = (fun i => [SV.int IntKind.i64 (List.getD K i (0 : Int))]) i, SVle (SV.val (Value.slice none (0 : Nat) (0 : Nat))) (SV.val (Value.slice none (0 : Nat) (0 : Nat))), List.length ns = List.length ns ∧ ∀ (i : Nat), i < List.length ns → (fun i => [SV.int IntKind.i64 (List.getD ns i (0 : Int))]) i = (fun i => [SV.int IntKind.i64 (List.getD ns i (0 : Int))]) i] (by kernel_rfl) (by kernel_rfl) ⟨rfl, rfl, ⟨rfl, fun _ _ => rfl⟩, SVle.refl _, ⟨rfl, fun _ _ => rfl⟩, trivial⟩ (by omega) ?_
          intro j hj
          have hml := missK_le K ns j hj
          refine good_run 9 (obs := []) (by kernel_rfl) trivial ?_
          refine good_cond (decide ((↑j : Int) < (↑(List.length ns) : Int))) (by kernel_rfl) (fun hc1 => ?_) (fun hc1 => ?_)
          · have hlt : j < ns.length := by simp only [decide_eq_true_eq] at hc1; omega
            have hms := missK_succ K ns j hlt
            have hac := any_contains K (ns.getD j 0)
            refine good_run 10 (obs := [(1 : Nat) = (1 : Nat) ∧ (0 : Int) ≤ (↑j : Int) ∧ (↑j : Int) < (↑(List.length ns) : Int)]) (by kernel_rfl) (by (first | omega | assumption | exact ⟨rfl, trivial⟩ | simp only [AllP, inK_iff, roomOK_iff, decide_eq_true_eq, Bool.and_eq_true, Bool.or_eq_true, Bool.not_eq_true', decide_eq_false_iff_not, and_true, true_and]; (first | omega | (and_intros <;> intros <;> (try and_intros) <;> first | omega | assumption | exact trivial)))) ?_
            refine good_call (c := True) (by kernel_rfl) (fun _ => SVles.refl _) (fun _ => s57 (K) (List.getD ns j (0 : Int))) (by kernel_rfl) ?_
            refine good_run 3 (obs := []) (by kernel_rfl) trivial ?_
            refine good_cond (!List.any K fun x => decide (x = List.getD ns j (0 : Int))) (by kernel_rfl) (fun hc2 => ?_) (fun hc2 => ?_)
            · rw [hac] at hc2; rw [if_neg (by simpa using hc2)] at hms
              refine good_run 18 (obs := [(1 : Nat) = (1 : Nat) ∧ (0 : Int) ≤ (↑j : Int) ∧ (↑j : Int) < (↑(List.length ns) : Int), (3 : Nat) = (3 : Nat) ∧ (1 : Nat) = (1 : Nat) ∧ (1 : Nat) = (1 : Nat) ∧ roomOK (List.length (missK K ns j) + (1 : Nat)) (8 : Nat), InK IntKind.i64 ((↑j : Int) + (1 : Int))]) (by kernel_rfl) (by (first | omega | assumption | exact ⟨rfl, trivial⟩ | simp only [AllP, inK_iff, roomOK_iff, decide_eq_true_eq, Bool.and_eq_true, Bool.or_eq_true, Bool.not_eq_true', decide_eq_false_iff_not, and_true, true_and]; (first | omega | (and_intros <;> intros <;> (try and_intros) <;> first | omega | assumption | exact trivial)))) ?_
              refine good_backJ (j + 1) [List.length (missK K ns j) + (1 : Nat) = List.length (missK K ns (j + (1 : Nat))) ∧ ∀ (i : Nat), i < List.length (missK K ns j) + (1 : Nat) → joinGet (List.length (missK K ns j)) (fun i => [SV.int IntKind.i64 (List.getD (missK K ns j) i (0 : Int))]) (cutRows (1 : Nat) [SV.int IntKind.i64 (List.getD ns j (0 : Int))]) i = (fun i => [SV.int IntKind.i64 (List.getD (missK K ns (j + (1 : Nat))) i (0 : Int))]) i, (↑j : Int) + (1 : Int) = (↑(j + (1 : Nat)) : Int), List.length K = List.length K ∧ ∀ (i : Nat), i < List.length K → (fun i => [SV.int IntKind.i64 (List.getD K i (0 : Int))]) i = (fun i => [SV.int IntKind.i64 (List.getD K i (0 : Int))]) i, SVle (SV.val (Value.slice none (0 : Nat) (0 : Nat))) (SV.val (Value.slice none (0 : Nat) (0 : Nat))), List.length ns = List.length ns ∧ ∀ (i : Nat), i < List.length ns → (fun i => [SV.int IntKind.i64 (List.getD ns i (0 : Int))]) i = (fun i => [SV.int IntKind.i64 (List.getD ns i (0 : Int))]) i] (by kernel_rfl) (by kernel_rfl) ⟨?_, (by omega), ⟨rfl, fun _ _ => rfl⟩, SVle.refl _, ⟨rfl, fun _ _ => rfl⟩, trivial⟩ (by omega) (by show _ < _; omega)
              · rw [hms]
                exact row_snoc' (fun x : Int => [SV.int .i64 x]) 0 (missK K ns j) (ns.getD j 0) 1 rfl
            · rw [hac] at hc2; rw [if_pos (by simpa using hc2)] at hms
              refine good_run 8 (obs := [InK IntKind.i64 ((↑j : Int) + (1 : Int))]) (by kernel_rfl) (by (first | omega | assumption | exact ⟨rfl, trivial⟩ | simp only [AllP, inK_iff, roomOK_iff, decide_eq_true_eq, Bool.and_eq_true, Bool.or_eq_true, Bool.not_eq_true', decide_eq_false_iff_not, and_true, true_and]; (first | omega | (and_intros <;> intros <;> (try and_intros) <;> first | omega | assumption | exact trivial)))) ?_
              refine good_backJ (j + 1) [List.length (missK K ns j) = List.length (missK K ns (j + (1 : Nat))) ∧ ∀ (i : Nat), i < List.length (missK K ns j) → (fun i => [SV.int IntKind.i64 (List.getD (missK K ns j) i (0 : Int))]) i = (fun i => [SV.int IntKind.i64 (List.getD (missK K ns (j + (1 : Nat))) i (0 : Int))]) i, (↑j : Int) + (1 : Int) = (↑(j + (1 : Nat)) : Int), List.length K = List.length K ∧ ∀ (i : Nat), i < List.length K → (fun i => [SV.int IntKind.i64 (List.getD K i (0 : Int))]) i = (fun i => [SV.int IntKind.i64 (List.getD K i (0 : Int))]) i, SVle (SV.val (Value.slice none (0 : Nat) (0 : Nat))) (SV.val (Value.slice none (0 : Nat) (0 : Nat))), List.length ns = List.length ns ∧ ∀ (i : Nat), i < List.length ns → (fun i => [SV.int IntKind.i64 (List.getD ns i (0 : Int))]) i = (fun i => [SV.int IntKind.i64 (List.getD ns i (0 : Int))]) i] (by kernel_rfl) (by kernel_rfl) ⟨?_, (by omega), ⟨rfl, fun _ _ => rfl⟩, SVle.refl _, ⟨rfl, fun _ _ => rfl⟩, trivial⟩ (by omega) (by show _ < _; omega)
              · rw [hms]; exact ⟨rfl, fun _ _ => rfl⟩
          · have hge : j = ns.length := by simp only [decide_eq_false_iff_not] at hc1; omega
            subst hge
            clear hc1 hj
            refine good_run 2 (obs := []) (by kernel_rfl) trivial ?_
            refine good_leaveJ (by kernel_rfl) ?_
            refine good_run 8 (obs := []) (by kernel_rfl) trivial ?_
            refine good_loopJ (fun j : Nat => ⟨[(15, .sv (.int .i64 (j))), (12, .own 1), (11, LV.own (0 : Nat)), (10, LV.sv (SV.lst (1 : Nat) (List.length K) fun i => [SV.int IntKind.i64 (List.getD K i (0 : Int))])), (2, LV.sv (SV.lst (1 : Nat) (List.length ns) fun i => [SV.int IntKind.i64 (List.getD ns i (0 : Int))]))], [Blk.row (3 : Nat) (1 : Nat) (List.length (missK K ns (List.length ns))) true fun i => [SV.int IntKind.i64 (List.getD (missK K ns (List.length ns)) i (0 : Int))], .row 3 1 (missK ns K j).length true fun i => [.int .i64 ((missK ns K j).getD i 0)]]⟩) (fun j => j ≤ K.length) (fun j => K.length - j) (0) [List.length (missK K ns (List.length ns)) = List.length (missK K ns (List.length ns)) ∧ ∀ (i : Nat), i < List.length (missK K ns (List.length ns)) → (fun i => [SV.int IntKind.i64 (List.getD (missK K ns (List.length ns)) i (0 : Int))]) i = (fun i => [SV.int IntKind.i64 (List.getD (missK K ns (List.length ns)) i (0 : Int))]) i, (0 : Nat) = (0 : Nat), (0 : Int) = (0 : Int), List.length K = List.length K ∧ ∀ (i : Nat), i < List.length K → (fun i => [SV.int IntKind.i64 (List.getD K i (0 : Int))]) i = (fun i => [SV.int IntKind.i64 (List.getD K i (0 : Int))]) i, List.length ns = List.length ns ∧ ∀ (i : Nat), i < List.length ns → (fun i => [SV.int IntKind.i64 (List.getD ns i (0 : Int))]) i = (fun i => [SV.int IntKind.i64 (List.getD ns i (0 : Int))]) i] (by kernel_rfl) (by kernel_rfl) ⟨⟨rfl, fun _ _ => rfl⟩, rfl, rfl, ⟨rfl, fun _ _ => rfl⟩, ⟨rfl, fun _ _ => rfl⟩, trivial⟩ (by omega) ?_
            intro j hj
            have hml2 := missK_le ns K j hj
            refine good_run 9 (obs := []) (by kernel_rfl) trivial ?_
            refine good_cond (decide ((↑j : Int) < (↑(List.length K) : Int))) (by kernel_rfl) (fun hc1 => ?_) (fun hc1 => ?_)
            · have hlt : j < K.length := by simp only [decide_eq_true_eq] at hc1; omega
              have hms := missK_succ ns K j hlt
              have hac := any_contains ns (K.getD j 0)
              refine good_run 10 (obs := [(1 : Nat) = (1 : Nat) ∧ (0 : Int) ≤ (↑j : Int) ∧ (↑j : Int) < (↑(List.length K) : Int)]) (by kernel_rfl) (by (first | omega | assumption | exact ⟨rfl, trivial⟩ | simp only [AllP, inK_iff, roomOK_iff, decide_eq_true_eq, Bool.and_eq_true, Bool.or_eq_true, Bool.not_eq_true', decide_eq_false_iff_not, and_true, true_and]; (first | omega | (and_intros <;> intros <;> (try and_intros) <;> first | omega | assumption | exact trivial)))) ?_
              refine good_call (c := True) (by kernel_rfl) (fun _ => SVles.refl _) (fun _ => s57 (ns) (List.getD K j (0 : Int))) (by kernel_rfl) ?_
              refine good_run 3 (obs := []) (by kernel_rfl) trivial ?_
              refine good_cond (!List.any ns fun x => decide (x = List.getD K j (0 : Int))) (by kernel_rfl) (fun hc2 => ?_) (fun hc2 => ?_)
              · rw [hac] at hc2; rw [if_neg (by simpa using hc2)] at hms
                refine good_run 18 (obs := [(1 : Nat) = (1 : Nat) ∧ (0 : Int) ≤ (↑j : Int) ∧ (↑j : Int) < (↑(List.length K) : Int), (3 : Nat) = (3 : Nat) ∧ (1 : Nat) = (1 : Nat) ∧ (1 : Nat) = (1 : Nat) ∧ roomOK (List.length (missK ns K j) + (1 : Nat)) (8 : Nat), InK IntKind.i64 ((↑j : Int) + (1 : Int))]) (by kernel_rfl) (by (first | omega | assumption | exact ⟨rfl, trivial⟩ | simp only [AllP, inK_iff, roomOK_iff, decide_eq_true_eq, Bool.and_eq_true, Bool.or_eq_true, Bool.not_eq_true', decide_eq_false_iff_not, and_true, true_and]; (first | omega | (and_intros <;> intros <;> (try and_intros) <;> first | omega | assumption | exact trivial)))) ?_
                refine good_backJ (j + 1) [List.length (missK K ns (List.length ns)) = List.length (missK K ns (List.length ns)) ∧ ∀ (i : Nat), i < List.length (missK K ns (List.length ns)) → (fun i => [SV.int IntKind.i64 (List.getD (missK K ns (List.length ns)) i (0 : Int))]) i = (fun i => [SV.int IntKind.i64 (List.getD (missK K ns (List.length ns)) i (0 : Int))]) i, List.length (missK ns K j) + (1 : Nat) = List.length (missK ns K (j + (1 : Nat))) ∧ ∀ (i : Nat), i < List.length (missK ns K j) + (1 : Nat) → joinGet (List.length (missK ns K j)) (fun i => [SV.int IntKind.i64 (List.getD (missK ns K j) i (0 : Int))]) (cutRows (1 : Nat) [SV.int IntKind.i64 (List.getD K j (0 : Int))]) i = (fun i => [SV.int IntKind.i64 (List.getD (missK ns K (j + (1 : Nat))) i (0 : Int))]) i, (↑j : Int) + (1 : Int) = (↑(j + (1 : Nat)) : Int), List.length K = List.length K ∧ ∀ (i : Nat), i < List.length K → (fun i => [SV.int IntKind.i64 (List.getD K i (0 : Int))]) i = (fun i => [SV.int IntKind.i64 (List.getD K i (0 : Int))]) i, List.length ns = List.length ns ∧ ∀ (i : Nat), i < List.length ns → (fun i => [SV.int IntKind.i64 (List.getD ns i (0 : Int))]) i = (fun i => [SV.int IntKind.i64 (List.getD ns i (0 : Int))]) i] (by kernel_rfl) (by kernel_rfl) ⟨⟨rfl, fun _ _ => rfl⟩, ?_, (by omega), ⟨rfl, fun _ _ => rfl⟩, ⟨rfl, fun _ _ => rfl⟩, trivial⟩ (by omega) (by show _ < _; omega)
                · rw [hms]
                  exact row_snoc' (fun x : Int => [SV.int .i64 x]) 0 (missK ns K j) (K.getD j 0) 1 rfl
              · rw [hac] at hc2; rw [if_pos (by simpa using hc2)] at hms
                refine good_run 8 (obs := [InK IntKind.i64 ((↑j : Int) + (1 : Int))]) (by kernel_rfl) (by (first | omega | assumption | exact ⟨rfl, trivial⟩ | simp only [AllP, inK_iff, roomOK_iff, decide_eq_true_eq, Bool.and_eq_true, Bool.or_eq_true, Bool.not_eq_true', decide_eq_false_iff_not, and_true, true_and]; (first | omega | (and_intros <;> intros <;> (try and_intros) <;> first | omega | assumption | exact trivial)))) ?_
                refine good_backJ (j + 1) [List.length (missK K ns (List.length ns)) = List.length (missK K ns (List.length ns)) ∧ ∀ (i : Nat), i < List.length (missK K ns (List.length ns)) → (fun i => [SV.int IntKind.i64 (List.getD (missK K ns (List.length ns)) i (0 : Int))]) i = (fun i => [SV.int IntKind.i64 (List.getD (missK K ns (List.length ns)) i (0 : Int))]) i, List.length (missK ns K j) = List.length (missK ns K (j + (1 : Nat))) ∧ ∀ (i : Nat), i < List.length (missK ns K j) → (fun i => [SV.int IntKind.i64 (List.getD (missK ns K j) i (0 : Int))]) i = (fun i => [SV.int IntKind.i64 (List.getD (missK ns K (j + (1 : Nat))) i (0 : Int))]) i, (↑j : Int) + (1 : Int) = (↑(j + (1 : Nat)) : Int), List.length K = List.length K ∧ ∀ (i : Nat), i < List.length K → (fun i => [SV.int IntKind.i64 (List.getD K i (0 : Int))]) i = (fun i => [SV.int IntKind.i64 (List.getD K i (0 : Int))]) i, List.length ns = List.length ns ∧ ∀ (i : Nat), i < List.length ns → (fun i => [SV.int IntKind.i64 (List.getD ns i (0 : Int))]) i = (fun i => [SV.int IntKind.i64 (List.getD ns i (0 : Int))]) i] (by kernel_rfl) (by kernel_rfl) ⟨⟨rfl, fun _ _ => rfl⟩, ?_, (by omega), ⟨rfl, fun _ _ => rfl⟩, ⟨rfl, fun _ _ => rfl⟩, trivial⟩ (by omega) (by show _ < _; omega)
                · rw [hms]; exact ⟨rfl, fun _ _ => rfl⟩
            · have hge : j = K.length := by simp only [decide_eq_false_iff_not] at hc1; omega
              subst hge
              refine good_run 2 (obs := []) (by kernel_rfl) trivial ?_
              refine good_leaveJ (by kernel_rfl) ?_
              refine good_run 11 (obs := []) (by kernel_rfl) trivial ?_
              refine good_fin [List.length (missK K ns (List.length ns)) = List.length (missK K ns (List.length ns), missK ns K (List.length K), (0 : Int)).fst ∧ ∀ (i : Nat), i < List.length (missK K ns (List.length ns)) → (fun i => [SV.int IntKind.i64 (List.getD (missK K ns (List.length ns)) i (0 : Int))]) i = (fun i => [SV.int IntKind.i64 (List.getD (missK K ns (List.length ns), missK ns K (List.length K), (0 : Int)).fst i (0 : Int))]) i, List.length (missK ns K (List.length K)) = List.length (missK K ns (List.length ns), missK ns K (List.length K), (0 : Int)).snd.fst ∧ ∀ (i : Nat), i < List.length (missK ns K (List.length K)) → (fun i => [SV.int IntKind.i64 (List.getD (missK ns K (List.length K)) i (0 : Int))]) i = (fun i => [SV.int IntKind.i64 (List.getD (missK K ns (List.length ns), missK ns K (List.length K), (0 : Int)).snd.fst i (0 : Int))]) i, (0 : Int) = (0 : Int)] (by kernel_rfl) ⟨⟨rfl, fun _ _ => rfl⟩, ⟨rfl, fun _ _ => rfl⟩, rfl, trivial⟩
end Go.Sx.T
