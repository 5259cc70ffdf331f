/- Contracts of functions of the program, each proved by running its code symbolically (VN). -/
import Derived.Test.YtejhgipllmjhfaaVM
namespace Go.Sx.T
open Go Go.Proofs Go.Sx
set_option maxRecDepth 100000
set_option maxHeartbeats 4000000
set_option linter.unusedVariables false
set_option linter.unusedSimpArgs false
theorem nodup_len : ∀ (a b : List Int), a.Nodup → (∀ x ∈ a, x ∈ b) → a.length ≤ b.length
  | [], b, _, _ => by simp
  | x :: a, b, h, hs => by
    have hx := hs x (by simp)
    have h' := List.nodup_cons.1 h
    have := nodup_len a (b.erase x) h'.2 fun y hy => by
      have hne : y ≠ x := fun e => h'.1 (e ▸ hy)
      exact (List.mem_erase_of_ne hne).2 (hs y (by simp [hy]))
    rw [List.length_erase_of_mem hx] at this
    have h0 : 0 < b.length := List.length_pos_of_mem hx
    simp only [List.length_cons]
    omega
theorem isort_eq {a b : List Int} (h : a.Perm b) : isort a = isort b := by
  have h1 := (isort_perm a).trans (h.trans (isort_perm b).symm)
  exact List.Perm.eq_of_pairwise (le := (· ≤ ·)) (fun x y _ _ h1 h2 => Int.le_antisymm h1 h2) (isort_sorted a) (isort_sorted b) h1
theorem s28 (l : List Came) (a : Int) (ns : List Int) (hnl : ns.length ≤ 100000) : Spec Try.prog 28 [cames l, .int .i64 a, ints ns] (.tup [ints (completeC l a ns).1, ints (completeC l a ns).2.1, .int .i64 (completeC l a ns).2.2]) := by
  refine spec_of_good mixed Try.func28 F28_ok (by kernel_rfl) ?_
  refine good_run 12 (obs := []) (by kernel_rfl) trivial ?_
  refine good_call (c := True) (by kernel_rfl) (fun _ => SVles.refl _) (fun _ => s39 (l)) (by kernel_rfl) ?_
  refine good_run 4 (obs := []) (by kernel_rfl) trivial ?_
  refine good_cond (!decide ((checkC l).snd = (0 : Int))) (by kernel_rfl) (fun hc1 => ?_) (fun hc1 => ?_)
  · have e : completeC l a ns = ([], [], 1) := if_pos (by simpa using hc1)
    rw [e]
    refine good_run 10 (obs := []) (by kernel_rfl) trivial ?_
    refine good_fin [(0 : Nat) = (0 : Nat), (0 : Nat) = (0 : Nat), (1 : Int) = (1 : Int)] (by kernel_rfl) ⟨rfl, rfl, rfl, trivial⟩
  · have hc : (checkC l).2 = 0 := by simpa using hc1
    have hll := ((right_iff l).1 hc).len
    clear hc1
    refine good_run 3 (obs := []) (by kernel_rfl) trivial ?_
    refine good_call (c := True) (by kernel_rfl) (fun _ => SVles.refl _) (fun _ => s45 (a) ((1 : Int)) ((1073741824 : Int))) (by kernel_rfl) ?_
    refine good_run 4 (obs := []) (by kernel_rfl) trivial ?_
    refine good_cond (!inI a (1 : Int) (1073741824 : Int)) (by kernel_rfl) (fun hc1 => ?_) (fun hc1 => ?_)
    · have e : completeC l a ns = ([], [], 2) := by rw [completeC, if_neg (by simp [hc]), if_pos (by simpa using hc1)]
      rw [e]
      refine good_run 10 (obs := []) (by kernel_rfl) trivial ?_
      refine good_fin [(0 : Nat) = (0 : Nat), (0 : Nat) = (0 : Nat), (2 : Int) = (2 : Int)] (by kernel_rfl) ⟨rfl, rfl, rfl, trivial⟩
    · have hia : ¬ inI a 1 1073741824 = false := by simpa using hc1
      clear hc1
      refine good_run 11 (obs := []) (by kernel_rfl) trivial ?_
      refine good_loopJ (fun k : Nat => ⟨[(29, .sv (.int .i64 (k))), (28, LV.sv (SV.int IntKind.i64 (↑(List.length ns) : Int))), (27, LV.sv (SV.lst (1 : Nat) (List.length ns) fun i => [SV.int IntKind.i64 (List.getD ns i (0 : Int))])), (0, LV.sv (SV.lst (4 : Nat) (List.length l) fun i => Came.cells (List.getD l i default))), (1, LV.sv (SV.int IntKind.i64 a)), (2, LV.sv (SV.lst (1 : Nat) (List.length ns) fun i => [SV.int IntKind.i64 (List.getD ns i (0 : Int))]))], []⟩) (fun k => k ≤ ns.length ∧ ∀ j, j < k → badN ns j = false) (fun k => ns.length - k) (0) [(0 : Int) = (0 : Int), (↑(List.length ns) : Int) = (↑(List.length ns) : Int), List.length ns = List.length ns ∧ ∀ (i : Nat), i < List.length ns → (fun i => [SV.int IntKind.i64 (List.getD ns i (0 : Int))]) i = (fun i => [SV.int IntKind.i64 (List.getD ns i (0 : Int))]) i, List.length l = List.length l ∧ ∀ (i : Nat), i < List.length l → (fun i => Came.cells (List.getD l i default)) i = (fun i => Came.cells (List.getD l i default)) i, a = a, List.length ns = List.length ns ∧ ∀ (i : Nat), i < List.length ns → (fun i => [SV.int IntKind.i64 (List.getD ns i (0 : Int))]) i = (fun i => [SV.int IntKind.i64 (List.getD ns i (0 : Int))]) i] (by kernel_rfl) (by kernel_rfl) ⟨rfl, rfl, ⟨rfl, fun _ _ => rfl⟩, ⟨rfl, fun _ _ => rfl⟩, rfl, ⟨rfl, fun _ _ => rfl⟩, trivial⟩ ⟨by omega, by omega⟩ ?_
      intro k hk
      have hz : 0 < k → ((k : Int) - 1).toNat = k - 1 := fun h => by omega
      have hcond : (!inI (ns.getD k 0) 1 9999 || (decide (0 < (k : Int)) && decide (ns.getD k 0 ≤ ns.getD ((k : Int) - 1).toNat 0))) = badN ns k := by
        unfold badN
        rcases Nat.eq_zero_or_pos k with h | h
        · subst h; rfl
        · rw [hz h]
      refine good_run 6 (obs := []) (by kernel_rfl) trivial ?_
      refine good_cond (decide ((↑k : Int) < (↑(List.length ns) : Int))) (by kernel_rfl) (fun hc1 => ?_) (fun hc1 => ?_)
      · have hlt : k < ns.length := by simp only [decide_eq_true_eq] at hc1; omega
        refine good_run 15 (obs := [(1 : Nat) = (1 : Nat) ∧ (0 : Int) ≤ (↑k : Int) ∧ (↑k : Int) < (↑(List.length ns) : Int)]) (by kernel_rfl) (by (first | omega | assumption | exact ⟨rfl, trivial⟩ | simp only [AllP, inK_iff, roomOK_iff, decide_eq_true_eq, Bool.and_eq_true, Bool.or_eq_true, Bool.not_eq_true', decide_eq_false_iff_not, and_true, true_and]; (first | omega | (and_intros <;> intros <;> (try and_intros) <;> first | omega | assumption | exact trivial)))) ?_
        refine good_call (c := True) (by kernel_rfl) (fun _ => SVles.refl _) (fun _ => s45 (List.getD ns k (0 : Int)) ((1 : Int)) ((9999 : Int))) (by kernel_rfl) ?_
        refine good_run 16 (obs := [decide ((0 : Int) < (↑k : Int)) = true ∧ (!inI (List.getD ns k (0 : Int)) (1 : Int) (9999 : Int)) = false ∧ True → InK IntKind.i64 ((↑k : Int) - (1 : Int)), decide ((0 : Int) < (↑k : Int)) = true ∧ (!inI (List.getD ns k (0 : Int)) (1 : Int) (9999 : Int)) = false ∧ True → (1 : Nat) = (1 : Nat) ∧ (0 : Int) ≤ (↑k : Int) - (1 : Int) ∧ (↑k : Int) - (1 : Int) < (↑(List.length ns) : Int)]) (by kernel_rfl) (by (first | omega | assumption | exact ⟨rfl, trivial⟩ | simp only [AllP, inK_iff, roomOK_iff, decide_eq_true_eq, Bool.and_eq_true, Bool.or_eq_true, Bool.not_eq_true', decide_eq_false_iff_not, and_true, true_and]; (first | omega | (and_intros <;> intros <;> (try and_intros) <;> first | omega | assumption | exact trivial)))) ?_
        refine good_cond (!inI (List.getD ns k (0 : Int)) (1 : Int) (9999 : Int) || decide ((0 : Int) < (↑k : Int)) && decide (List.getD ns k (0 : Int) ≤ List.getD ns (Int.toNat ((↑k : Int) - (1 : Int))) (0 : Int))) (by kernel_rfl) (fun hc2 => ?_) (fun hc2 => ?_)
        · rw [hcond] at hc2
          have e : completeC l a ns = ([], [], 5) := by rw [completeC, if_neg (by simp [hc]), if_neg hia, if_pos (okN_not hlt hc2)]
          rw [e]
          refine good_run 10 (obs := []) (by kernel_rfl) trivial ?_
          refine good_leaveJ (by kernel_rfl) ?_
          refine good_run 2 (obs := []) (by kernel_rfl) trivial ?_
          refine good_fin [(0 : Nat) = (0 : Nat), (0 : Nat) = (0 : Nat), (5 : Int) = (5 : Int)] (by kernel_rfl) ⟨rfl, rfl, rfl, trivial⟩
        · rw [hcond] at hc2
          have hn : k + 1 ≤ ns.length ∧ ∀ j, j < k + 1 → badN ns j = false := ⟨hlt, fun j hj => by
            rcases Nat.lt_or_ge j k with h | h
            · exact hk.2 j h
            · have : j = k := by omega
              subst this
              exact hc2⟩
          refine good_run 7 (obs := [InK IntKind.i64 ((↑k : Int) + (1 : Int))]) (by kernel_rfl) (by (first | omega | assumption | exact ⟨rfl, trivial⟩ | simp only [AllP, inK_iff, roomOK_iff, decide_eq_true_eq, Bool.and_eq_true, Bool.or_eq_true, Bool.not_eq_true', decide_eq_false_iff_not, and_true, true_and]; (first | omega | (and_intros <;> intros <;> (try and_intros) <;> first | omega | assumption | exact trivial)))) ?_
          refine good_backJ (k + 1) [(↑k : Int) + (1 : Int) = (↑(k + (1 : Nat)) : Int), (↑(List.length ns) : Int) = (↑(List.length ns) : Int), List.length ns = List.length ns ∧ ∀ (i : Nat), i < List.length ns → (fun i => [SV.int IntKind.i64 (List.getD ns i (0 : Int))]) i = (fun i => [SV.int IntKind.i64 (List.getD ns i (0 : Int))]) i, List.length l = List.length l ∧ ∀ (i : Nat), i < List.length l → (fun i => Came.cells (List.getD l i default)) i = (fun i => Came.cells (List.getD l i default)) i, a = a, List.length ns = List.length ns ∧ ∀ (i : Nat), i < List.length ns → (fun i => [SV.int IntKind.i64 (List.getD ns i (0 : Int))]) i = (fun i => [SV.int IntKind.i64 (List.getD ns i (0 : Int))]) i] (by kernel_rfl) (by kernel_rfl) ⟨(by omega), rfl, ⟨rfl, fun _ _ => rfl⟩, ⟨rfl, fun _ _ => rfl⟩, rfl, ⟨rfl, fun _ _ => rfl⟩, trivial⟩ (by omega) (by show _ < _; omega)
      · have hge : k = ns.length := by simp only [decide_eq_false_iff_not] at hc1; omega
        subst hge
        have hr := badN_rise hk.2
        have e : completeC l a ns = (missK (kF (ownN l a)) ns ns.length, isort (restK (kF (ownN l a)) ns ns.length), 0) := by rw [completeC, if_neg (by simp [hc]), if_neg hia, if_neg (by rw [okN_of hk.2]; decide)]
        rw [e]
        clear hc1 hk hcond hz
        refine good_run 2 (obs := []) (by kernel_rfl) trivial ?_
        refine good_leaveJ (by kernel_rfl) ?_
        refine good_run 16 (obs := []) (by kernel_rfl) trivial ?_
        refine good_loopJ (fun k : Nat => ⟨[(54, .sv (.int .i64 (k))), (53, LV.sv (SV.int IntKind.i64 (↑(List.length l) : Int))), (52, LV.sv (SV.lst (4 : Nat) (List.length l) fun i => Came.cells (List.getD l i default))), (11, LV.own (0 : Nat)), (1, LV.sv (SV.int IntKind.i64 a)), (2, LV.sv (SV.lst (1 : Nat) (List.length ns) fun i => [SV.int IntKind.i64 (List.getD ns i (0 : Int))]))], [.map (.bool false) (kF (ownP l a k)) (hasM (kF (ownP l a k)))]⟩) (fun k => k ≤ l.length) (fun k => l.length - k) (0) [Value.bool false = Value.bool false, ([] : List Int) = [] ∧ ∀ (k : Int), (fun x => valSV (Value.bool false)) k = hasM (kF (ownP l a (0 : Nat))) k, (0 : Int) = (0 : Int), (↑(List.length l) : Int) = (↑(List.length l) : Int), List.length l = List.length l ∧ ∀ (i : Nat), i < List.length l → (fun i => Came.cells (List.getD l i default)) i = (fun i => Came.cells (List.getD l i default)) i, a = a, List.length ns = List.length ns ∧ ∀ (i : Nat), i < List.length ns → (fun i => [SV.int IntKind.i64 (List.getD ns i (0 : Int))]) i = (fun i => [SV.int IntKind.i64 (List.getD ns i (0 : Int))]) i] (by kernel_rfl) (by kernel_rfl) ⟨rfl, ?_, rfl, rfl, ⟨rfl, fun _ _ => rfl⟩, rfl, ⟨rfl, fun _ _ => rfl⟩, trivial⟩ (by omega) ?_
        · exact ⟨rfl, fun k => by simp [hasM, kF, ownP, valSV]⟩
        intro k hk
        refine good_run 6 (obs := []) (by kernel_rfl) trivial ?_
        refine good_cond (decide ((↑k : Int) < (↑(List.length l) : Int))) (by kernel_rfl) (fun hc1 => ?_) (fun hc1 => ?_)
        · have hlt : k < l.length := by simp only [decide_eq_true_eq] at hc1; omega
          have hst := ownP_succ l a k hlt
          refine good_run 20 (obs := [(4 : Nat) = (4 : Nat) ∧ (0 : Int) ≤ (↑k : Int) ∧ (↑k : Int) < (↑(List.length l) : Int), (0 : Nat) + (4 : Nat) ≤ (4 : Nat), (4 : Nat) = (4 : Nat) ∧ (0 : Nat) + (4 : Nat) ≤ (4 : Nat)]) (by kernel_rfl) (by (first | omega | assumption | exact ⟨rfl, trivial⟩ | simp only [AllP, inK_iff, roomOK_iff, decide_eq_true_eq, Bool.and_eq_true, Bool.or_eq_true, Bool.not_eq_true', decide_eq_false_iff_not, and_true, true_and]; (first | omega | (and_intros <;> intros <;> (try and_intros) <;> first | omega | assumption | exact trivial)))) ?_
          refine good_cond (decide ((List.getD l k default).Acc = a)) (by kernel_rfl) (fun hc2 => ?_) (fun hc2 => ?_)
          · rw [if_pos hc2] at hst
            refine good_run 14 (obs := [InK IntKind.i64 ((↑k : Int) + (1 : Int))]) (by kernel_rfl) (by (first | omega | assumption | exact ⟨rfl, trivial⟩ | simp only [AllP, inK_iff, roomOK_iff, decide_eq_true_eq, Bool.and_eq_true, Bool.or_eq_true, Bool.not_eq_true', decide_eq_false_iff_not, and_true, true_and]; (first | omega | (and_intros <;> intros <;> (try and_intros) <;> first | omega | assumption | exact trivial)))) ?_
            refine good_backJ (k + 1) [Value.bool false = Value.bool false, putKey (kF (ownP l a k)) (List.getD l k default).Num = kF (ownP l a (k + (1 : Nat))) ∧ ∀ (k_1 : Int), putGet (List.getD l k default).Num (SV.bool true) (hasM (kF (ownP l a k))) k_1 = hasM (kF (ownP l a (k + (1 : Nat)))) k_1, (↑k : Int) + (1 : Int) = (↑(k + (1 : Nat)) : Int), (↑(List.length l) : Int) = (↑(List.length l) : Int), List.length l = List.length l ∧ ∀ (i : Nat), i < List.length l → (fun i => Came.cells (List.getD l i default)) i = (fun i => Came.cells (List.getD l i default)) i, a = a, List.length ns = List.length ns ∧ ∀ (i : Nat), i < List.length ns → (fun i => [SV.int IntKind.i64 (List.getD ns i (0 : Int))]) i = (fun i => [SV.int IntKind.i64 (List.getD ns i (0 : Int))]) i] (by kernel_rfl) (by kernel_rfl) ⟨rfl, ?_, (by omega), rfl, ⟨rfl, fun _ _ => rfl⟩, rfl, ⟨rfl, fun _ _ => rfl⟩, trivial⟩ (by omega) (by show _ < _; omega)
            · rw [hst, kF_snoc]
              exact ⟨rfl, fun j => hasM_put _ _ j⟩
          · rw [if_neg (by rw [hc2]; decide)] at hst
            refine good_run 7 (obs := [InK IntKind.i64 ((↑k : Int) + (1 : Int))]) (by kernel_rfl) (by (first | omega | assumption | exact ⟨rfl, trivial⟩ | simp only [AllP, inK_iff, roomOK_iff, decide_eq_true_eq, Bool.and_eq_true, Bool.or_eq_true, Bool.not_eq_true', decide_eq_false_iff_not, and_true, true_and]; (first | omega | (and_intros <;> intros <;> (try and_intros) <;> first | omega | assumption | exact trivial)))) ?_
            refine good_backJ (k + 1) [Value.bool false = Value.bool false, kF (ownP l a k) = kF (ownP l a (k + (1 : Nat))) ∧ ∀ (k_1 : Int), hasM (kF (ownP l a k)) k_1 = hasM (kF (ownP l a (k + (1 : Nat)))) k_1, (↑k : Int) + (1 : Int) = (↑(k + (1 : Nat)) : Int), (↑(List.length l) : Int) = (↑(List.length l) : Int), List.length l = List.length l ∧ ∀ (i : Nat), i < List.length l → (fun i => Came.cells (List.getD l i default)) i = (fun i => Came.cells (List.getD l i default)) i, a = a, List.length ns = List.length ns ∧ ∀ (i : Nat), i < List.length ns → (fun i => [SV.int IntKind.i64 (List.getD ns i (0 : Int))]) i = (fun i => [SV.int IntKind.i64 (List.getD ns i (0 : Int))]) i] (by kernel_rfl) (by kernel_rfl) ⟨rfl, ?_, (by omega), rfl, ⟨rfl, fun _ _ => rfl⟩, rfl, ⟨rfl, fun _ _ => rfl⟩, trivial⟩ (by omega) (by show _ < _; omega)
            · rw [hst]
              exact ⟨rfl, fun _ => rfl⟩
        · have hge : k = l.length := by simp only [decide_eq_false_iff_not] at hc1; omega
          subst hge
          rw [ownP_end]
          clear hc1
          have hkn := (kF_spec (ownN l a)).1
          have hkl : (kF (ownN l a)).length ≤ 256 := by
            have h1 := (kF_spec (ownN l a)).2.2
            have h2 := ownP_le l a l.length (Nat.le_refl _)
            rw [ownP_end] at h2
            omega
          generalize hK : kF (ownN l a) = K at hkn hkl ⊢
          refine good_run 2 (obs := []) (by kernel_rfl) trivial ?_
          refine good_leaveJ (by kernel_rfl) ?_
          refine good_run 16 (obs := []) (by kernel_rfl) trivial ?_
          refine good_loopJ (fun j : Nat => ⟨[(70, .sv (.int .i64 (j))), (14, .own 1), (69, LV.sv (SV.int IntKind.i64 (↑(List.length ns) : Int))), (68, LV.sv (SV.lst (1 : Nat) (List.length ns) fun i => [SV.int IntKind.i64 (List.getD ns i (0 : Int))])), (15, LV.sv (SV.val (Value.slice none (0 : Nat) (0 : Nat)))), (11, LV.own (0 : Nat))], [.map (.bool false) (restK K ns j) (hasM (restK K ns j)), .row 3 1 (missK K ns j).length true fun i => [.int .i64 ((missK K ns j).getD i 0)]]⟩) (fun j => j ≤ ns.length) (fun j => ns.length - j) (0) [Value.bool false = Value.bool false, K = restK K ns (0 : Nat) ∧ ∀ (k : Int), hasM K k = hasM (restK K ns (0 : Nat)) k, (0 : Nat) = (0 : Nat), (0 : Int) = (0 : Int), (↑(List.length ns) : Int) = (↑(List.length ns) : Int), List.length ns = List.length ns ∧ ∀ (i : Nat), i < List.length ns → (fun i => [SV.int IntKind.i64 (List.getD ns i (0 : Int))]) i = (fun i => [SV.int IntKind.i64 (List.getD ns i (0 : Int))]) i, SVle (SV.val (Value.slice none (0 : Nat) (0 : Nat))) (SV.val (Value.slice none (0 : Nat) (0 : Nat)))] (by kernel_rfl) (by kernel_rfl) ⟨rfl, ?_, rfl, rfl, rfl, ⟨rfl, fun _ _ => rfl⟩, SVle.refl _, trivial⟩ (by omega) ?_
          · have h0 : restK K ns 0 = K := by simp [restK]
            rw [h0]
            exact ⟨rfl, fun _ => rfl⟩
          intro j hj
          have hml := missK_le K ns j hj
          refine good_run 6 (obs := []) (by kernel_rfl) trivial ?_
          refine good_cond (decide ((↑j : Int) < (↑(List.length ns) : Int))) (by kernel_rfl) (fun hc1 => ?_) (fun hc1 => ?_)
          · have hlt : j < ns.length := by simp only [decide_eq_true_eq] at hc1; omega
            have hms := missK_succ K ns j hlt
            have hrs := restK_succ K ns j hlt
            have hrm := rest_mem (ks := K) hr j hlt
            refine good_run 19 (obs := [(1 : Nat) = (1 : Nat) ∧ (0 : Int) ≤ (↑j : Int) ∧ (↑j : Int) < (↑(List.length ns) : Int), Value.bool false = Value.bool false]) (by kernel_rfl) (by (first | omega | assumption | exact ⟨rfl, trivial⟩ | simp only [AllP, inK_iff, roomOK_iff, decide_eq_true_eq, Bool.and_eq_true, Bool.or_eq_true, Bool.not_eq_true', decide_eq_false_iff_not, and_true, true_and]; (first | omega | (and_intros <;> intros <;> (try and_intros) <;> first | omega | assumption | exact trivial)))) ?_
            refine good_cond (!decide (List.getD ns j (0 : Int) ∈ restK K ns j)) (by kernel_rfl) (fun hc2 => ?_) (fun hc2 => ?_)
            · have hnm : ¬ K.contains (ns.getD j 0) = true := by
                rw [List.contains_iff_mem, ← hrm]; simpa using hc2
              rw [if_neg hnm] at hms
              refine good_run 11 (obs := [(3 : Nat) = (3 : Nat) ∧ (1 : Nat) = (1 : Nat) ∧ (1 : Nat) = (1 : Nat) ∧ roomOK (List.length (missK K ns j) + (1 : Nat)) (8 : Nat)]) (by kernel_rfl) (by (first | omega | assumption | exact ⟨rfl, trivial⟩ | simp only [AllP, inK_iff, roomOK_iff, decide_eq_true_eq, Bool.and_eq_true, Bool.or_eq_true, Bool.not_eq_true', decide_eq_false_iff_not, and_true, true_and]; (first | omega | (and_intros <;> intros <;> (try and_intros) <;> first | omega | assumption | exact trivial)))) ?_
              refine good_del ((68 : Nat)) ((0 : Nat)) (Value.bool false) (restK K ns j) (hasM (restK K ns j)) (List.getD ns j (0 : Int)) (by kernel_rfl) (by kernel_rfl) (by kernel_rfl) ?_
              refine good_run 8 (obs := [InK IntKind.i64 ((↑j : Int) + (1 : Int))]) (by kernel_rfl) (by (first | omega | assumption | exact ⟨rfl, trivial⟩ | simp only [AllP, inK_iff, roomOK_iff, decide_eq_true_eq, Bool.and_eq_true, Bool.or_eq_true, Bool.not_eq_true', decide_eq_false_iff_not, and_true, true_and]; (first | omega | (and_intros <;> intros <;> (try and_intros) <;> first | omega | assumption | exact trivial)))) ?_
              refine good_backJ (j + 1) [Value.bool false = Value.bool false, delKey (restK K ns j) (List.getD ns j (0 : Int)) = restK K ns (j + (1 : Nat)) ∧ ∀ (k : Int), delGet (Value.bool false) (List.getD ns j (0 : Int)) (hasM (restK K ns j)) k = hasM (restK K ns (j + (1 : Nat))) k, List.length (missK K ns j) + (1 : Nat) = List.length (missK K ns (j + (1 : Nat))) ∧ ∀ (i : Nat), i < List.length (missK K ns j) + (1 : Nat) → joinGet (List.length (missK K ns j)) (fun i => [SV.int IntKind.i64 (List.getD (missK K ns j) i (0 : Int))]) (cutRows (1 : Nat) [SV.int IntKind.i64 (List.getD ns j (0 : Int))]) i = (fun i => [SV.int IntKind.i64 (List.getD (missK K ns (j + (1 : Nat))) i (0 : Int))]) i, (↑j : Int) + (1 : Int) = (↑(j + (1 : Nat)) : Int), (↑(List.length ns) : Int) = (↑(List.length ns) : Int), List.length ns = List.length ns ∧ ∀ (i : Nat), i < List.length ns → (fun i => [SV.int IntKind.i64 (List.getD ns i (0 : Int))]) i = (fun i => [SV.int IntKind.i64 (List.getD ns i (0 : Int))]) i, SVle (SV.val (Value.slice none (0 : Nat) (0 : Nat))) (SV.val (Value.slice none (0 : Nat) (0 : Nat)))] (by kernel_rfl) (by kernel_rfl) ⟨rfl, ?_, ?_, (by omega), rfl, ⟨rfl, fun _ _ => rfl⟩, SVle.refl _, trivial⟩ (by omega) (by show _ < _; omega)
              · rw [hrs]; exact ⟨rfl, fun k => hasM_del _ _ k⟩
              · rw [hms]
                exact row_snoc' (fun x : Int => [SV.int .i64 x]) 0 (missK K ns j) (ns.getD j 0) 1 rfl
            · have hnm : K.contains (ns.getD j 0) = true := by
                rw [List.contains_iff_mem, ← hrm]; simpa using hc2
              rw [if_pos hnm] at hms
              refine good_run 4 (obs := []) (by kernel_rfl) trivial ?_
              refine good_del ((68 : Nat)) ((0 : Nat)) (Value.bool false) (restK K ns j) (hasM (restK K ns j)) (List.getD ns j (0 : Int)) (by kernel_rfl) (by kernel_rfl) (by kernel_rfl) ?_
              refine good_run 8 (obs := [InK IntKind.i64 ((↑j : Int) + (1 : Int))]) (by kernel_rfl) (by (first | omega | assumption | exact ⟨rfl, trivial⟩ | simp only [AllP, inK_iff, roomOK_iff, decide_eq_true_eq, Bool.and_eq_true, Bool.or_eq_true, Bool.not_eq_true', decide_eq_false_iff_not, and_true, true_and]; (first | omega | (and_intros <;> intros <;> (try and_intros) <;> first | omega | assumption | exact trivial)))) ?_
              refine good_backJ (j + 1) [Value.bool false = Value.bool false, delKey (restK K ns j) (List.getD ns j (0 : Int)) = restK K ns (j + (1 : Nat)) ∧ ∀ (k : Int), delGet (Value.bool false) (List.getD ns j (0 : Int)) (hasM (restK K ns j)) k = hasM (restK K ns (j + (1 : Nat))) k, List.length (missK K ns j) = List.length (missK K ns (j + (1 : Nat))) ∧ ∀ (i : Nat), i < List.length (missK K ns j) → (fun i => [SV.int IntKind.i64 (List.getD (missK K ns j) i (0 : Int))]) i = (fun i => [SV.int IntKind.i64 (List.getD (missK K ns (j + (1 : Nat))) i (0 : Int))]) i, (↑j : Int) + (1 : Int) = (↑(j + (1 : Nat)) : Int), (↑(List.length ns) : Int) = (↑(List.length ns) : Int), List.length ns = List.length ns ∧ ∀ (i : Nat), i < List.length ns → (fun i => [SV.int IntKind.i64 (List.getD ns i (0 : Int))]) i = (fun i => [SV.int IntKind.i64 (List.getD ns i (0 : Int))]) i, SVle (SV.val (Value.slice none (0 : Nat) (0 : Nat))) (SV.val (Value.slice none (0 : Nat) (0 : Nat)))] (by kernel_rfl) (by kernel_rfl) ⟨rfl, ?_, ?_, (by omega), rfl, ⟨rfl, fun _ _ => rfl⟩, SVle.refl _, trivial⟩ (by omega) (by show _ < _; omega)
              · rw [hrs]; exact ⟨rfl, fun k => hasM_del _ _ k⟩
              · rw [hms]; exact ⟨rfl, fun _ _ => rfl⟩
          · have hge : j = ns.length := by simp only [decide_eq_false_iff_not] at hc1; omega
            subst hge
            have hRn : (restK K ns ns.length).Nodup := hkn.sublist List.filter_sublist
            have hRl : (restK K ns ns.length).length ≤ 256 := by
              have := List.length_filter_le (fun k => !(ns.take ns.length).contains k) K
              show (K.filter _).length ≤ 256
              omega
            generalize hR : restK K ns ns.length = R at hRn hRl ⊢
            clear hc1
            refine good_run 2 (obs := []) (by kernel_rfl) trivial ?_
            refine good_leaveJ (by kernel_rfl) ?_
            refine good_run 5 (obs := []) (by kernel_rfl) trivial ?_
            refine good_range ((68 : Nat)) ((0 : Nat)) (Value.bool false) (R) (hasM R) (by kernel_rfl) (by kernel_rfl) (by kernel_rfl) ?_
            refine good_run 3 (obs := []) (by kernel_rfl) trivial ?_
            refine good_loopJ (fun seen : List Int => ⟨[(15, .own 3), (86, LV.ptr (2 : Nat) (0 : Nat)), (14, LV.own (1 : Nat))], [Blk.sem (fmapS (Value.bool false) R (hasM R)), Blk.row (3 : Nat) (1 : Nat) (List.length (missK K ns (List.length ns))) true fun i => [SV.int IntKind.i64 (List.getD (missK K ns (List.length ns)) i (0 : Int))], .sem (iterS R (hasM R) seen), .row 3 1 seen.length true fun i => [.int .i64 (seen.getD i 0)]]⟩) (fun seen => seen.Nodup ∧ ∀ x ∈ seen, x ∈ R) (fun seen => R.length - seen.length) ([]) [fmapS (Value.bool false) R (hasM R) = fmapS (Value.bool false) R (hasM R), List.length (missK K ns (List.length ns)) = List.length (missK K ns (List.length ns)) ∧ ∀ (i : Nat), i < List.length (missK K ns (List.length ns)) → (fun i => [SV.int IntKind.i64 (List.getD (missK K ns (List.length ns)) i (0 : Int))]) i = (fun i => [SV.int IntKind.i64 (List.getD (missK K ns (List.length ns)) i (0 : Int))]) i, iterS R (hasM R) [] = iterS R (hasM R) [], (0 : Nat) = (0 : Nat)] (by kernel_rfl) (by kernel_rfl) ⟨rfl, ⟨rfl, fun _ _ => rfl⟩, rfl, rfl, trivial⟩ ?_ ?_
            · exact ⟨by simp, by simp⟩
            rintro seen ⟨hs1, hs2⟩
            have hsl := nodup_len seen _ hs1 hs2
            refine good_run 2 (obs := []) (by kernel_rfl) trivial ?_
            refine good_next ((2 : Nat)) (R) (hasM R) (seen) (by kernel_rfl) (by kernel_rfl) (fun x hx hn => ?_) (fun hn => ?_)
            · have hs1' : (seen ++ [x]).Nodup := by
                rw [List.nodup_append]
                exact ⟨hs1, by simp, fun a ha c hc e => by simp at hc; subst hc e; exact hn ha⟩
              have hs2' : ∀ y ∈ seen ++ [x], y ∈ R := fun y hy => by
                rcases List.mem_append.1 hy with hy | hy
                · exact hs2 y hy
                · simp at hy; subst hy; exact hx
              have hl' := nodup_len _ _ hs1' hs2'
              rw [List.length_append, List.length_singleton] at hl'
              refine good_run 4 (obs := []) (by kernel_rfl) trivial ?_
              refine good_cond true (by kernel_rfl) (fun _ => ?_) (fun h => nomatch h)
              refine good_run 4 (obs := []) (by kernel_rfl) trivial ?_
              refine good_entry ((2 : Nat)) (R) (hasM R) (seen) (x) (by kernel_rfl) (by kernel_rfl) ?_
              refine good_run 13 (obs := [(3 : Nat) = (3 : Nat) ∧ (1 : Nat) = (1 : Nat) ∧ (1 : Nat) = (1 : Nat) ∧ roomOK (List.length seen + (1 : Nat)) (8 : Nat)]) (by kernel_rfl) (by (first | omega | assumption | exact ⟨rfl, trivial⟩ | simp only [AllP, inK_iff, roomOK_iff, decide_eq_true_eq, Bool.and_eq_true, Bool.or_eq_true, Bool.not_eq_true', decide_eq_false_iff_not, and_true, true_and]; (first | omega | (and_intros <;> intros <;> (try and_intros) <;> first | omega | assumption | exact trivial)))) ?_
              refine good_backJ (seen ++ [x]) [fmapS (Value.bool false) R (hasM R) = fmapS (Value.bool false) R (hasM R), List.length (missK K ns (List.length ns)) = List.length (missK K ns (List.length ns)) ∧ ∀ (i : Nat), i < List.length (missK K ns (List.length ns)) → (fun i => [SV.int IntKind.i64 (List.getD (missK K ns (List.length ns)) i (0 : Int))]) i = (fun i => [SV.int IntKind.i64 (List.getD (missK K ns (List.length ns)) i (0 : Int))]) i, iterS R (hasM R) (seen ++ [x]) = iterS R (hasM R) (seen ++ [x]), List.length seen + (1 : Nat) = List.length (seen ++ [x]) ∧ ∀ (i : Nat), i < List.length seen + (1 : Nat) → joinGet (List.length seen) (fun i => [SV.int IntKind.i64 (List.getD seen i (0 : Int))]) (cutRows (1 : Nat) [SV.int IntKind.i64 x]) i = (fun i => [SV.int IntKind.i64 (List.getD (seen ++ [x]) i (0 : Int))]) i] (by kernel_rfl) (by kernel_rfl) ⟨rfl, ⟨rfl, fun _ _ => rfl⟩, rfl, ?_, trivial⟩ ⟨by omega, by assumption⟩ ?_
              · exact row_snoc' (fun x : Int => [SV.int .i64 x]) 0 seen x 1 rfl
              · rw [List.length_append, List.length_singleton]; omega
            · have hp : seen.Perm R := (List.perm_ext_iff_of_nodup hs1 hRn).2 fun x => ⟨hs2 x, hn x⟩
              refine good_run 4 (obs := []) (by kernel_rfl) trivial ?_
              refine good_cond false (by kernel_rfl) (fun h => nomatch h) (fun _ => ?_)
              refine good_run 2 (obs := []) (by kernel_rfl) trivial ?_
              refine good_leaveJ (by kernel_rfl) ?_
              refine good_run 4 (obs := []) (by kernel_rfl) trivial ?_
              refine good_sort (by kernel_rfl) (SVles.refl _) (SVles.refl _) (s55 ((3 : Nat)) (seen) (by (first | omega | assumption | exact ⟨rfl, trivial⟩ | simp only [AllP, inK_iff, roomOK_iff, decide_eq_true_eq, Bool.and_eq_true, Bool.or_eq_true, Bool.not_eq_true', decide_eq_false_iff_not, and_true, true_and]; (first | omega | (and_intros <;> intros <;> (try and_intros) <;> first | omega | assumption | exact trivial))))) ?_
              refine good_run 12 (obs := []) (by kernel_rfl) trivial ?_
              refine good_fin [List.length (missK K ns (List.length ns)) = List.length (missK K ns (List.length ns), isort R, (0 : Int)).fst ∧ ∀ (i : Nat), i < List.length (missK K ns (List.length ns)) → (fun i => [SV.int IntKind.i64 (List.getD (missK K ns (List.length ns)) i (0 : Int))]) i = (fun i => [SV.int IntKind.i64 (List.getD (missK K ns (List.length ns), isort R, (0 : Int)).fst i (0 : Int))]) i, List.length seen = List.length (missK K ns (List.length ns), isort R, (0 : Int)).snd.fst ∧ ∀ (i : Nat), i < List.length seen → (fun i => [SV.int IntKind.i64 (List.getD (isort seen) i (0 : Int))]) i = (fun i => [SV.int IntKind.i64 (List.getD (missK K ns (List.length ns), isort R, (0 : Int)).snd.fst i (0 : Int))]) i, (0 : Int) = (0 : Int)] (by kernel_rfl) ⟨⟨rfl, fun _ _ => rfl⟩, ?_, rfl, trivial⟩
              rw [isort_eq hp]
              exact ⟨by rw [isort_length]; exact hp.length_eq, fun _ _ => rfl⟩
end Go.Sx.T
