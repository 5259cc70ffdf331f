/- Contracts of functions of the program, each proved by running its code symbolically (VG). -/
import Derived.Test.YtejhgipllmjhfaaVF
namespace Go.Sx.T
open Go Go.Proofs Go.Sx
set_option maxRecDepth 100000
set_option maxHeartbeats 4000000
set_option linter.unusedVariables false
set_option linter.unusedSimpArgs false
def errR (l : List Came) (k : Nat) : Int := if aloneC (l.getD k default) = false then 2 else if (decide (0 < (k : Int)) && decide ((l.getD k default).Unit ≤ (l.getD (k - 1) default).Unit)) = true then 5 else againstC (l.take k) (l.getD k default)
def checkR (l : List Came) : Int × Int := if 256 < l.length then (-1, 8) else firstC (errR l) l.length 0
theorem asc_of (l : List Came) (k : Nat) (h : ∀ j, j < k → errC l j = 0) : ∀ n i, i + n + 1 < k → (l.getD i default).Unit < (l.getD (i + n + 1) default).Unit := by
  have h3 : ∀ j, 0 < j → j < k → (l.getD (j - 1) default).Unit < (l.getD j default).Unit := fun j h0 hj => by
    have h := h j hj
    unfold errC at h
    split at h
    · cases h
    · split at h
      · cases h
      · rename_i hu
        simp only [Bool.and_eq_true, decide_eq_true_eq, not_and] at hu
        have := hu (by omega)
        omega
  intro n
  induction n with
  | zero => intro i hi; have := h3 (i + 1) (by omega) hi; simpa using this
  | succ n ih =>
    intro i hi
    have h4 := ih i (by omega)
    have h5 := h3 (i + (n + 1) + 1) (by omega) hi
    rw [show i + (n + 1) + 1 - 1 = i + n + 1 by omega] at h5
    omega
theorem err_eq (l : List Came) (k : Nat) (hk : k < l.length) (h : ∀ j, j < k → errC l j = 0) : errR l k = errC l k := by
  unfold errR errC
  split
  · rfl
  · split
    · rfl
    · rename_i hu
      simp only [Bool.and_eq_true, decide_eq_true_eq, not_and] at hu
      rw [against_eq, if_neg]
      rw [Bool.not_eq_true, hasU, List.any_eq_false]
      intro x hx
      obtain ⟨i, hi, e⟩ := List.mem_iff_getElem.1 hx
      rw [List.length_take] at hi
      have hx2 : x = l.getD i default := by
        rw [← e, List.getElem_take, getD_of_lt l i (by omega)]
      have h0 := hu (by omega)
      have h1 : (l.getD i default).Unit ≤ (l.getD (k - 1) default).Unit := by
        by_cases e : i = k - 1
        · rw [e]; exact Int.le_refl _
        · have := asc_of l k h (k - 1 - i - 1) i (by omega)
          rw [show i + (k - 1 - i - 1) + 1 = k - 1 by omega] at this
          omega
      rw [hx2]
      simp only [decide_eq_true_eq]
      omega
theorem first_eq (l : List Came) : ∀ n k, k + n ≤ l.length → (∀ j, j < k → errC l j = 0) → firstC (errR l) n k = firstC (errC l) n k := by
  intro n
  induction n with
  | zero => intro k _ _; rfl
  | succ n ih =>
    intro k hk h
    rw [firstC, firstC, err_eq l k (by omega) h]
    by_cases he : errC l k ≠ 0
    · rw [if_pos he, if_pos he]
    · rw [if_neg he, if_neg he]
      refine ih (k + 1) (by omega) fun j hj => ?_
      by_cases e : j = k
      · rw [e]; simpa using he
      · exact h j (by omega)
theorem checkR_eq (l : List Came) : checkR l = checkC l := by
  unfold checkR checkC
  rw [first_eq l l.length 0 (by omega) (fun j hj => by omega)]
theorem s14 (l : List Came) : Spec Try.prog 14 [cames l] (.tup [.int .i64 (checkC l).1, .int .i64 (checkC l).2]) := by
  rw [← checkR_eq]
  refine spec_len 0 rfl (hasBody_of_slim Try.func14 F14_ok) fun hlen => ?_
  refine spec_of_good mixed Try.func14 F14_ok (by kernel_rfl) ?_
  refine good_run 14 (obs := []) (by kernel_rfl) trivial ?_
  refine good_cond (decide ((256 : Int) < (↑(List.length l) : Int))) (by kernel_rfl) (fun hc1 => ?_) (fun hc1 => ?_)
  · have e : checkR l = (-1, 8) := by simp only [gt_iff_lt, decide_eq_true_eq] at hc1; rw [checkR, if_pos (by omega)]
    rw [e]
    refine good_run 8 (obs := []) (by kernel_rfl) trivial ?_
    refine good_fin [(-1 : Int) = (-1 : Int), (8 : Int) = (8 : Int)] (by kernel_rfl) ⟨rfl, rfl, trivial⟩
  · have hck : checkR l = firstC (errR l) l.length 0 := by simp only [gt_iff_lt, decide_eq_false_iff_not] at hc1; rw [checkR, if_neg (by omega)]
    clear hc1
    refine good_run 8 (obs := []) (by kernel_rfl) trivial ?_
    refine good_loopJ (fun k : Nat => ⟨[(4, .sv (.int .i64 (k))), (0, LV.sv (SV.lst (4 : Nat) (List.length l) fun i => Came.cells (List.getD l i default)))], []⟩) (fun k => k ≤ l.length ∧ checkR l = firstC (errR l) (l.length - k) k) (fun k => l.length - k) (0) [(0 : Int) = (0 : Int), List.length l = List.length l ∧ ∀ (i : Nat), i < List.length l → (fun i => Came.cells (List.getD l i default)) i = (fun i => Came.cells (List.getD l i default)) i] (by kernel_rfl) (by kernel_rfl) ⟨rfl, ⟨rfl, fun _ _ => rfl⟩, trivial⟩ ⟨by omega, by omega⟩ ?_
    intro k hk
    refine good_run 9 (obs := []) (by kernel_rfl) trivial ?_
    refine good_cond (decide ((↑k : Int) < (↑(List.length l) : Int))) (by kernel_rfl) (fun hc1 => ?_) (fun hc1 => ?_)
    · have hlt : k < l.length := by simp only [decide_eq_true_eq] at hc1; omega
      have hst := firstC_step (errR l) l.length k hlt
      rw [← hk.2] at hst
      have hz : 0 < k → ((k : Int) - 1).toNat = k - 1 := fun h => by omega
      refine good_run 10 (obs := [(4 : Nat) = (4 : Nat) ∧ (0 : Int) ≤ (↑k : Int) ∧ (↑k : Int) < (↑(List.length l) : Int), (0 : Nat) + (4 : Nat) ≤ (4 : Nat)]) (by kernel_rfl) (by (first | omega | assumption | exact ⟨rfl, trivial⟩ | simp only [AllP, inK_iff, roomOK_iff, decide_eq_true_eq, Bool.and_eq_true, Bool.or_eq_true, Bool.not_eq_true', decide_eq_false_iff_not, and_true, true_and]; (first | omega | (and_intros <;> intros <;> (try and_intros) <;> first | omega | assumption | exact trivial)))) ?_
      refine good_call (c := True) (by kernel_rfl) (fun _ => SVles.refl _) (fun _ => s35 (List.getD l k default)) (by kernel_rfl) ?_
      refine good_run 3 (obs := []) (by kernel_rfl) trivial ?_
      refine good_cond (!aloneC (List.getD l k default)) (by kernel_rfl) (fun hc2 => ?_) (fun hc2 => ?_)
      · have he : errR l k = 2 := by rw [errR, if_pos (by simpa using hc2)]
        rw [he, if_pos (by decide)] at hst
        rw [hst]
        refine good_run 11 (obs := []) (by kernel_rfl) trivial ?_
        refine good_leaveJ (by kernel_rfl) ?_
        refine good_run 2 (obs := []) (by kernel_rfl) trivial ?_
        refine good_fin [(↑k : Int) = (↑k : Int), (2 : Int) = (2 : Int)] (by kernel_rfl) ⟨rfl, rfl, trivial⟩
      · have ha : aloneC (l.getD k default) = true := by simpa using hc2
        have hcond : (decide (0 < (k : Int)) && decide ((l.getD k default).Unit ≤ (l.getD ((k : Int) - 1).toNat default).Unit)) = (decide (0 < (k : Int)) && decide ((l.getD k default).Unit ≤ (l.getD (k - 1) default).Unit)) := by
          rcases Nat.eq_zero_or_pos k with h | h
          · subst h; rfl
          · rw [hz h]
        refine good_run 22 (obs := [decide ((0 : Int) < (↑k : Int)) = true ∧ True → (4 : Nat) = (4 : Nat) ∧ (0 : Int) ≤ (↑k : Int) ∧ (↑k : Int) < (↑(List.length l) : Int), decide ((0 : Int) < (↑k : Int)) = true ∧ True → InK IntKind.i64 ((↑k : Int) - (1 : Int)), decide ((0 : Int) < (↑k : Int)) = true ∧ True → (4 : Nat) = (4 : Nat) ∧ (0 : Int) ≤ (↑k : Int) - (1 : Int) ∧ (↑k : Int) - (1 : Int) < (↑(List.length l) : Int)]) (by kernel_rfl) (by (first | omega | assumption | exact ⟨rfl, trivial⟩ | simp only [AllP, inK_iff, roomOK_iff, decide_eq_true_eq, Bool.and_eq_true, Bool.or_eq_true, Bool.not_eq_true', decide_eq_false_iff_not, and_true, true_and]; (first | omega | (and_intros <;> intros <;> (try and_intros) <;> first | omega | assumption | exact trivial)))) ?_
        refine good_cond (decide ((0 : Int) < (↑k : Int)) && decide ((List.getD l k default).Unit ≤ (List.getD l (Int.toNat ((↑k : Int) - (1 : Int))) default).Unit)) (by kernel_rfl) (fun hc3 => ?_) (fun hc3 => ?_)
        · have he : errR l k = 5 := by rw [errR, if_neg (by rw [ha]; decide), if_pos (by rw [← hcond]; exact hc3)]
          rw [he, if_pos (by decide)] at hst
          rw [hst]
          refine good_run 11 (obs := []) (by kernel_rfl) trivial ?_
          refine good_leaveJ (by kernel_rfl) ?_
          refine good_run 2 (obs := []) (by kernel_rfl) trivial ?_
          refine good_fin [(↑k : Int) = (↑k : Int), (5 : Int) = (5 : Int)] (by kernel_rfl) ⟨rfl, rfl, trivial⟩
        · have he : errR l k = againstC (l.take k) (l.getD k default) := by rw [errR, if_neg (by rw [ha]; decide), if_neg (by rw [← hcond]; simpa using hc3)]
          refine good_run 10 (obs := [True → (4 : Nat) = (4 : Nat) ∧ (0 : Int) ≤ (0 : Int) ∧ (0 : Int) ≤ (↑k : Int) ∧ (↑k : Int) ≤ (↑(List.length l) : Int), True → (4 : Nat) = (4 : Nat) ∧ (0 : Int) ≤ (↑k : Int) ∧ (↑k : Int) < (↑(List.length l) : Int), True → (0 : Nat) + (4 : Nat) ≤ (4 : Nat)]) (by kernel_rfl) (by (first | omega | assumption | exact ⟨rfl, trivial⟩ | simp only [AllP, inK_iff, roomOK_iff, decide_eq_true_eq, Bool.and_eq_true, Bool.or_eq_true, Bool.not_eq_true', decide_eq_false_iff_not, and_true, true_and]; (first | omega | (and_intros <;> intros <;> (try and_intros) <;> first | omega | assumption | exact trivial)))) ?_
          refine good_call (args := [SV.lst (4 : Nat) (k - (0 : Nat)) fun i => (fun i => Came.cells (List.getD l i default)) (Int.toNat (0 : Int) + i), SV.agg [SV.int IntKind.i64 (List.getD l k default).Unit, SV.int IntKind.i64 (List.getD l k default).Office, SV.int IntKind.i64 (List.getD l k default).Acc, SV.int IntKind.i64 (List.getD l k default).Num]]) (c := True) (by kernel_rfl) (fun _ => show SVles _ [cames (l.take k), (l.getD k default).sv] from ⟨take_sv l k hk.1, SVle.refl _, trivial⟩) (fun _ => s36 (l.take k) (l.getD k default)) (by kernel_rfl) ?_
          refine good_run 9 (obs := []) (by kernel_rfl) trivial ?_
          refine good_cond (!decide (againstC (List.take k l) (List.getD l k default) = (0 : Int))) (by kernel_rfl) (fun hc4 => ?_) (fun hc4 => ?_)
          · rw [← he] at hc4
            rw [if_pos (by simpa using hc4)] at hst
            rw [hst, ← he]
            refine good_run 11 (obs := []) (by kernel_rfl) trivial ?_
            refine good_leaveJ (by kernel_rfl) ?_
            refine good_run 2 (obs := []) (by kernel_rfl) trivial ?_
            refine good_fin [(↑k : Int) = (↑k : Int), errR l k = errR l k] (by kernel_rfl) ⟨rfl, rfl, trivial⟩
          · rw [← he] at hc4
            rw [if_neg (by simpa using hc4)] at hst
            have hnx : k + 1 ≤ l.length ∧ checkR l = firstC (errR l) (l.length - (k + 1)) (k + 1) := ⟨hlt, hst⟩
            refine good_run 8 (obs := [InK IntKind.i64 ((↑k : Int) + (1 : Int))]) (by kernel_rfl) (by (first | omega | assumption | exact ⟨rfl, trivial⟩ | simp only [AllP, inK_iff, roomOK_iff, decide_eq_true_eq, Bool.and_eq_true, Bool.or_eq_true, Bool.not_eq_true', decide_eq_false_iff_not, and_true, true_and]; (first | omega | (and_intros <;> intros <;> (try and_intros) <;> first | omega | assumption | exact trivial)))) ?_
            refine good_backJ (k + 1) [(↑k : Int) + (1 : Int) = (↑(k + (1 : Nat)) : Int), List.length l = List.length l ∧ ∀ (i : Nat), i < List.length l → (fun i => Came.cells (List.getD l i default)) i = (fun i => Came.cells (List.getD l i default)) i] (by kernel_rfl) (by kernel_rfl) ⟨(by omega), ⟨rfl, fun _ _ => rfl⟩, trivial⟩ (by omega) (by show _ < _; omega)
    · have hge : k = l.length := by simp only [decide_eq_false_iff_not] at hc1; omega
      subst hge
      have e : checkR l = (-1, 0) := by rw [hk.2, firstC_end]
      rw [e]
      refine good_run 2 (obs := []) (by kernel_rfl) trivial ?_
      refine good_leaveJ (by kernel_rfl) ?_
      refine good_run 8 (obs := []) (by kernel_rfl) trivial ?_
      refine good_fin [(-1 : Int) = (-1 : Int), (0 : Int) = (0 : Int)] (by kernel_rfl) ⟨rfl, rfl, trivial⟩
theorem s44 (l : List Came) : Spec Try.prog 44 [cames l] (.bool (decide ((checkC l).2 = 0))) := by
  refine spec_of_good mixed Try.func44 F44_ok (by kernel_rfl) ?_
  refine good_run 8 (obs := []) (by kernel_rfl) trivial ?_
  refine good_call (c := True) (by kernel_rfl) (fun _ => SVles.refl _) (fun _ => s14 (l)) (by kernel_rfl) ?_
  refine good_run 15 (obs := []) (by kernel_rfl) trivial ?_
  refine good_fin [decide ((checkC l).snd = (0 : Int)) = decide ((checkC l).snd = (0 : Int))] (by kernel_rfl) ⟨rfl, trivial⟩
theorem s16 (l : List Came) (u : Int) : Spec Try.prog 16 [cames l, .int .i64 u] (.tup [orig (ofC l u).1, .bool (ofC l u).2]) := by
  refine spec_len 0 rfl (hasBody_of_slim Try.func16 F16_ok) fun hlen => ?_
  refine spec_of_good mixed Try.func16 F16_ok (by kernel_rfl) ?_
  refine good_run 13 (obs := []) (by kernel_rfl) trivial ?_
  refine good_loopJ (fun k : Nat => ⟨[(6, .sv (.int .i64 (k))), (4, LV.ptr (0 : Nat) (0 : Nat)), (0, LV.sv (SV.lst (4 : Nat) (List.length l) fun i => Came.cells (List.getD l i default))), (1, LV.sv (SV.int IntKind.i64 u))], [Blk.cells (30 : Nat) true [SV.val (Value.int IntKind.i64 (Int.ofNat (0 : Nat))), SV.val (Value.int IntKind.i64 (Int.ofNat (0 : Nat))), SV.val (Value.int IntKind.i64 (Int.ofNat (0 : Nat)))]]⟩) (fun k => k ≤ l.length ∧ ∀ j, j < k → decide ((l.getD j default).Unit = u) = false) (fun k => l.length - k) (0) [SVle (SV.val (Value.int IntKind.i64 (Int.ofNat (0 : Nat)))) (SV.val (Value.int IntKind.i64 (Int.ofNat (0 : Nat)))), SVle (SV.val (Value.int IntKind.i64 (Int.ofNat (0 : Nat)))) (SV.val (Value.int IntKind.i64 (Int.ofNat (0 : Nat)))), SVle (SV.val (Value.int IntKind.i64 (Int.ofNat (0 : Nat)))) (SV.val (Value.int IntKind.i64 (Int.ofNat (0 : Nat)))), (0 : Int) = (0 : Int), List.length l = List.length l ∧ ∀ (i : Nat), i < List.length l → (fun i => Came.cells (List.getD l i default)) i = (fun i => Came.cells (List.getD l i default)) i, u = u] (by kernel_rfl) (by kernel_rfl) ⟨SVle.refl _, SVle.refl _, SVle.refl _, rfl, ⟨rfl, fun _ _ => rfl⟩, rfl, trivial⟩ ⟨by omega, by omega⟩ ?_
  intro k hk
  refine good_run 9 (obs := []) (by kernel_rfl) trivial ?_
  refine good_cond (decide ((↑k : Int) < (↑(List.length l) : Int))) (by kernel_rfl) (fun hc1 => ?_) (fun hc1 => ?_)
  · have hlt : k < l.length := by simp only [decide_eq_true_eq] at hc1; omega
    refine good_run 14 (obs := [(4 : Nat) = (4 : Nat) ∧ (0 : Int) ≤ (↑k : Int) ∧ (↑k : Int) < (↑(List.length l) : Int)]) (by kernel_rfl) (by (first | omega | assumption | exact ⟨rfl, trivial⟩ | simp only [AllP, inK_iff, roomOK_iff, decide_eq_true_eq, Bool.and_eq_true, Bool.or_eq_true, Bool.not_eq_true', decide_eq_false_iff_not, and_true, true_and]; (first | omega | (and_intros <;> intros <;> (try and_intros) <;> first | omega | assumption | exact trivial)))) ?_
    refine good_cond (decide ((List.getD l k default).Unit = u)) (by kernel_rfl) (fun hc2 => ?_) (fun hc2 => ?_)
    · have e2 : ofC l u = (l.getD k default, true) := by
        rcases findI_cases l (fun c => decide (c.Unit = u)) with ⟨_, _, _, h⟩ | ⟨k', hk', _, _, h, h3, _⟩
        · exfalso
          have := List.any_eq_false.1 h _ (getD_mem l default k hlt)
          exact this hc2
        · have : findI l (fun c => decide (c.Unit = u)) = k := findI_hit l _ k hlt hc2 hk.2
          have e : k' = k := by
            rename_i a b _
            have := a; omega
          rw [ofC, h, e]
      rw [e2]
      refine good_run 14 (obs := [(4 : Nat) = (4 : Nat) ∧ (0 : Int) ≤ (↑k : Int) ∧ (↑k : Int) < (↑(List.length l) : Int), (1 : Nat) + (3 : Nat) ≤ (4 : Nat), (3 : Nat) = (3 : Nat) ∧ (0 : Nat) + (3 : Nat) ≤ (3 : Nat)]) (by kernel_rfl) (by (first | omega | assumption | exact ⟨rfl, trivial⟩ | simp only [AllP, inK_iff, roomOK_iff, decide_eq_true_eq, Bool.and_eq_true, Bool.or_eq_true, Bool.not_eq_true', decide_eq_false_iff_not, and_true, true_and]; (first | omega | (and_intros <;> intros <;> (try and_intros) <;> first | omega | assumption | exact trivial)))) ?_
      refine good_leaveJ (by kernel_rfl) ?_
      refine good_run 2 (obs := []) (by kernel_rfl) trivial ?_
      refine good_fin [(List.getD l k default).Office = (List.getD l k default).Office, (List.getD l k default).Acc = (List.getD l k default).Acc, (List.getD l k default).Num = (List.getD l k default).Num, true = true] (by kernel_rfl) ⟨rfl, rfl, rfl, rfl, trivial⟩
    · have hn : k + 1 ≤ l.length ∧ ∀ j, j < k + 1 → decide ((l.getD j default).Unit = u) = false := ⟨hlt, fun j hj => by
        rcases Nat.lt_or_ge j k with h | h
        · exact hk.2 j h
        · have : j = k := by omega
          subst this
          exact hc2⟩
      refine good_run 8 (obs := [InK IntKind.i64 ((↑k : Int) + (1 : Int))]) (by kernel_rfl) (by (first | omega | assumption | exact ⟨rfl, trivial⟩ | simp only [AllP, inK_iff, roomOK_iff, decide_eq_true_eq, Bool.and_eq_true, Bool.or_eq_true, Bool.not_eq_true', decide_eq_false_iff_not, and_true, true_and]; (first | omega | (and_intros <;> intros <;> (try and_intros) <;> first | omega | assumption | exact trivial)))) ?_
      refine good_backJ (k + 1) [SVle (SV.val (Value.int IntKind.i64 (Int.ofNat (0 : Nat)))) (SV.val (Value.int IntKind.i64 (Int.ofNat (0 : Nat)))), SVle (SV.val (Value.int IntKind.i64 (Int.ofNat (0 : Nat)))) (SV.val (Value.int IntKind.i64 (Int.ofNat (0 : Nat)))), SVle (SV.val (Value.int IntKind.i64 (Int.ofNat (0 : Nat)))) (SV.val (Value.int IntKind.i64 (Int.ofNat (0 : Nat)))), (↑k : Int) + (1 : Int) = (↑(k + (1 : Nat)) : Int), List.length l = List.length l ∧ ∀ (i : Nat), i < List.length l → (fun i => Came.cells (List.getD l i default)) i = (fun i => Came.cells (List.getD l i default)) i, u = u] (by kernel_rfl) (by kernel_rfl) ⟨SVle.refl _, SVle.refl _, SVle.refl _, (by omega), ⟨rfl, fun _ _ => rfl⟩, rfl, trivial⟩ (by omega) (by show _ < _; omega)
  · have hge : k = l.length := by simp only [decide_eq_false_iff_not] at hc1; omega
    subst hge
    have e2 : ofC l u = (⟨0, 0, 0, 0⟩, false) := by
      rw [ofC]
      have : l.find? (fun c => decide (c.Unit = u)) = none := by
        rw [List.find?_eq_none]
        have := any_none (l := l) (f := fun c : Came => decide (c.Unit = u)) default hk.2
        rw [List.any_eq_false] at this
        exact this
      rw [this]
    rw [e2]
    refine good_run 2 (obs := []) (by kernel_rfl) trivial ?_
    refine good_leaveJ (by kernel_rfl) ?_
    refine good_run 9 (obs := [(3 : Nat) = (3 : Nat) ∧ (0 : Nat) + (3 : Nat) ≤ (3 : Nat)]) (by kernel_rfl) (by (first | omega | assumption | exact ⟨rfl, trivial⟩ | simp only [AllP, inK_iff, roomOK_iff, decide_eq_true_eq, Bool.and_eq_true, Bool.or_eq_true, Bool.not_eq_true', decide_eq_false_iff_not, and_true, true_and]; (first | omega | (and_intros <;> intros <;> (try and_intros) <;> first | omega | assumption | exact trivial)))) ?_
    refine good_fin [(0 : Int) = (0 : Int), (0 : Int) = (0 : Int), (0 : Int) = (0 : Int), false = false] (by kernel_rfl) ⟨rfl, rfl, rfl, rfl, trivial⟩
theorem s11 (l : List Came) : Spec Try.prog 11 [cames l] (.bool (decide ((l.length : Int) ≤ 20) || decide ((l.length : Int) = 256) || decide ((l.length : Int) = 257))) := by
  refine spec_of_good mixed Try.func11 F11_ok (by kernel_rfl) ?_
  refine good_run 24 (obs := []) (by kernel_rfl) trivial ?_
  refine good_fin [(decide ((↑(List.length l) : Int) ≤ (20 : Int)) || decide ((↑(List.length l) : Int) = (256 : Int)) || decide ((↑(List.length l) : Int) = (257 : Int))) = (decide ((↑(List.length l) : Int) ≤ (20 : Int)) || decide ((↑(List.length l) : Int) = (256 : Int)) || decide ((↑(List.length l) : Int) = (257 : Int)))] (by kernel_rfl) ⟨rfl, trivial⟩
end Go.Sx.T
