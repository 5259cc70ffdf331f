/- Contracts of functions of the program, each proved by running its code symbolically (HF). -/
import Derived.Test.YtgnffeajpmniiaaHE
namespace Go.Sx.T
open Go Go.Proofs Go.Sx
set_option maxRecDepth 100000
set_option maxHeartbeats 4000000
set_option linter.unusedVariables false
set_option linter.unusedSimpArgs false
theorem s38 (n lo hi : Int) : Spec Try.prog 38 [.int .i64 n, .int .i64 lo, .int .i64 hi] (.bool (inB n lo hi)) := by
  refine spec_of_good mixed Try.func38 F38_ok (by kernel_rfl) ?_
  refine good_run 19 (obs := []) (by kernel_rfl) trivial ?_
  refine good_fin [(decide (lo ≤ n) && decide (n ≤ hi)) = inB n lo hi] (by kernel_rfl) ⟨(by rfl), trivial⟩
def okS (s : Shf) : Bool := inB s.ID 1 1073741824 && inB s.Repository 1 1073741824 && inB s.Length 1 10000 && inB s.Climate 0 7
def badS (l : List Shf) (i : Nat) : Int := if okS (l.getD i default) = false then 2 else if (decide (0 < i) && decide ((l.getD i default).ID ≤ (l.getD (i - 1) default).ID)) = true then 5 else 0
def shelvesC (l : List Shf) : Int := if 32 < l.length then 8 else errFrom (badS l) l.length 0
theorem s12 (l : List Shf) : Spec Try.prog 12 [shfs l] (.int .i64 (shelvesC l)) := by
  refine spec_len 0 rfl (hasBody_of_slim Try.func12 F12_ok) fun hlen => ?_
  refine spec_of_good mixed Try.func12 F12_ok (by kernel_rfl) ?_
  refine good_run 13 (obs := []) (by kernel_rfl) trivial ?_
  refine good_cond (decide ((32 : Int) < (↑(List.length l) : Int))) (by kernel_rfl) (fun hc1 => ?_) (fun hc1 => ?_)
  · simp only [decide_eq_true_eq] at hc1
    refine good_run 7 (obs := []) (by kernel_rfl) trivial ?_
    refine good_fin [(8 : Int) = shelvesC l] (by kernel_rfl) ⟨?_, trivial⟩
    rw [shelvesC, if_pos (by omega)]
  · simp only [decide_eq_false_iff_not] at hc1
    have hck : shelvesC l = errFrom (badS l) l.length 0 := by rw [shelvesC, if_neg (by omega)]
    refine good_run 10 (obs := []) (by kernel_rfl) trivial ?_
    refine good_loopJ (fun k : Nat => ⟨[(10, .sv (.int .i64 (k))), (9, LV.sv (SV.int IntKind.i64 (↑(List.length l) : Int))), (8, LV.sv (SV.lst (4 : Nat) (List.length l) fun i => Shf.cells (List.getD l i default))), (0, LV.sv (SV.lst (4 : Nat) (List.length l) fun i => Shf.cells (List.getD l i default)))], []⟩) (fun k => k ≤ l.length ∧ errFrom (badS l) (l.length - k) k = shelvesC l) (fun k => l.length - k) (0) [(0 : Int) = (0 : Int), (↑(List.length l) : Int) = (↑(List.length l) : Int), List.length l = List.length l ∧ ∀ (i : Nat), i < List.length l → (fun i => Shf.cells (List.getD l i default)) i = (fun i => Shf.cells (List.getD l i default)) i, List.length l = List.length l ∧ ∀ (i : Nat), i < List.length l → (fun i => Shf.cells (List.getD l i default)) i = (fun i => Shf.cells (List.getD l i default)) i] (by kernel_rfl) (by kernel_rfl) ⟨rfl, rfl, ⟨rfl, fun _ _ => rfl⟩, ⟨rfl, fun _ _ => rfl⟩, trivial⟩ ?_ ?_
    · exact ⟨Nat.zero_le _, by rw [hck]; rfl⟩
    intro k hk
    refine good_run 6 (obs := []) (by kernel_rfl) trivial ?_
    refine good_cond (decide ((↑k : Int) < (↑(List.length l) : Int))) (by kernel_rfl) (fun hc2 => ?_) (fun hc2 => ?_)
    · have hlt : k < l.length := by simp only [decide_eq_true_eq] at hc2; omega
      have hst := errFrom_step (badS l) l.length k hlt
      rw [hk.2] at hst
      have hb : badS l k = if okS (l.getD k default) = false then 2 else if (decide (0 < k) && decide ((l.getD k default).ID ≤ (l.getD (k - 1) default).ID)) = true then 5 else 0 := rfl
      refine good_run 18 (obs := [(4 : Nat) = (4 : Nat) ∧ (0 : Int) ≤ (↑k : Int) ∧ (↑k : Int) < (↑(List.length l) : Int), (0 : Nat) + (4 : Nat) ≤ (4 : Nat), (4 : Nat) = (4 : Nat) ∧ (0 : Nat) + (4 : Nat) ≤ (4 : Nat)]) (by kernel_rfl) (by (first | omega | assumption | exact ⟨rfl, trivial⟩ | simp only [AllP, inK_iff, roomOK_iff, decide_eq_true_eq, Bool.and_eq_true, Bool.or_eq_true, Bool.not_eq_true', decide_eq_false_iff_not, and_true, true_and]; (first | omega | (and_intros <;> intros <;> (try and_intros) <;> first | omega | assumption | exact trivial)))) ?_
      refine good_call (c := True) (by kernel_rfl) (fun _ => SVles.refl _) (fun _ => s38 ((List.getD l k default).ID) ((1 : Int)) ((1073741824 : Int))) (by kernel_rfl) ?_
      refine good_run 5 (obs := []) (by kernel_rfl) trivial ?_
      refine good_call (c := (!inB (List.getD l k default).ID (1 : Int) (1073741824 : Int)) = false ∧ True) (by kernel_rfl) (fun _ => SVles.refl _) (fun _ => s38 ((List.getD l k default).Repository) ((1 : Int)) ((1073741824 : Int))) (by kernel_rfl) ?_
      refine good_run 7 (obs := []) (by kernel_rfl) trivial ?_
      refine good_call (c := (!inB (List.getD l k default).ID (1 : Int) (1073741824 : Int) || !inB (List.getD l k default).Repository (1 : Int) (1073741824 : Int)) = false ∧ True) (by kernel_rfl) (fun _ => SVles.refl _) (fun _ => s38 ((List.getD l k default).Length) ((1 : Int)) ((10000 : Int))) (by kernel_rfl) ?_
      refine good_run 7 (obs := []) (by kernel_rfl) trivial ?_
      refine good_call (c := (!inB (List.getD l k default).ID (1 : Int) (1073741824 : Int) || !inB (List.getD l k default).Repository (1 : Int) (1073741824 : Int) || !inB (List.getD l k default).Length (1 : Int) (10000 : Int)) = false ∧ True) (by kernel_rfl) (fun _ => SVles.refl _) (fun _ => s38 ((List.getD l k default).Climate) ((0 : Int)) ((7 : Int))) (by kernel_rfl) ?_
      refine good_run 6 (obs := []) (by kernel_rfl) trivial ?_
      refine good_cond (!inB (List.getD l k default).ID (1 : Int) (1073741824 : Int) || !inB (List.getD l k default).Repository (1 : Int) (1073741824 : Int) || !inB (List.getD l k default).Length (1 : Int) (10000 : Int) || !inB (List.getD l k default).Climate (0 : Int) (7 : Int)) (by kernel_rfl) (fun hc3 => ?_) (fun hc3 => ?_)
      · have : okS (l.getD k default) = false := by
          simp only [okS]
          simp only [Bool.or_eq_true, Bool.not_eq_true'] at hc3
          rcases hc3 with ((h | h) | h) | h <;> simp only [h, Bool.false_and, Bool.and_false]
        refine good_run 9 (obs := []) (by kernel_rfl) trivial ?_
        refine good_leaveJ (by kernel_rfl) ?_
        refine good_run 2 (obs := []) (by kernel_rfl) trivial ?_
        refine good_fin [(2 : Int) = shelvesC l] (by kernel_rfl) ⟨?_, trivial⟩
        all_goals (rw [hst, hb, if_pos this]; rfl)
      · have : okS (l.getD k default) = true := by
          simp only [okS]
          simp only [Bool.or_eq_false_iff, Bool.not_eq_false'] at hc3
          obtain ⟨⟨⟨h1, h2⟩, h3⟩, h4⟩ := hc3
          rw [h1, h2, h3, h4]; rfl
        have e1 : ((k : Int) - 1).toNat = k - 1 := by omega
        have e2 : decide ((0 : Int) < (k : Int)) = decide (0 < k) := decide_eq_decide.2 (by omega)
        rw [if_neg (by rw [this]; decide)] at hb
        refine good_run 18 (obs := [decide ((0 : Int) < (↑k : Int)) = true ∧ True → InK IntKind.i64 ((↑k : Int) - (1 : Int)), decide ((0 : Int) < (↑k : Int)) = true ∧ True → (4 : Nat) = (4 : Nat) ∧ (0 : Int) ≤ (↑k : Int) - (1 : Int) ∧ (↑k : Int) - (1 : Int) < (↑(List.length l) : Int)]) (by kernel_rfl) (by (first | omega | assumption | exact ⟨rfl, trivial⟩ | simp only [AllP, inK_iff, roomOK_iff, decide_eq_true_eq, Bool.and_eq_true, Bool.or_eq_true, Bool.not_eq_true', decide_eq_false_iff_not, and_true, true_and]; (first | omega | (and_intros <;> intros <;> (try and_intros) <;> first | omega | assumption | exact trivial)))) ?_
        refine good_cond (decide ((0 : Int) < (↑k : Int)) && decide ((List.getD l k default).ID ≤ (List.getD l (Int.toNat ((↑k : Int) - (1 : Int))) default).ID)) (by kernel_rfl) (fun hc4 => ?_) (fun hc4 => ?_)
        · rw [e1, e2] at hc4
          rw [if_pos hc4] at hb
          refine good_run 9 (obs := []) (by kernel_rfl) trivial ?_
          refine good_leaveJ (by kernel_rfl) ?_
          refine good_run 2 (obs := []) (by kernel_rfl) trivial ?_
          refine good_fin [(5 : Int) = shelvesC l] (by kernel_rfl) ⟨(by omega), trivial⟩
          all_goals (rw [hst, hb]; rfl)
        · rw [e1, e2] at hc4
          rw [if_neg (by rw [hc4]; decide)] at hb
          rw [hb] at hst
          refine good_run 8 (obs := [InK IntKind.i64 ((↑k : Int) + (1 : Int))]) (by kernel_rfl) (by (first | omega | assumption | exact ⟨rfl, trivial⟩ | simp only [AllP, inK_iff, roomOK_iff, decide_eq_true_eq, Bool.and_eq_true, Bool.or_eq_true, Bool.not_eq_true', decide_eq_false_iff_not, and_true, true_and]; (first | omega | (and_intros <;> intros <;> (try and_intros) <;> first | omega | assumption | exact trivial)))) ?_
          refine good_backJ (k + 1) [(↑k : Int) + (1 : Int) = (↑(k + (1 : Nat)) : Int), (↑(List.length l) : Int) = (↑(List.length l) : Int), List.length l = List.length l ∧ ∀ (i : Nat), i < List.length l → (fun i => Shf.cells (List.getD l i default)) i = (fun i => Shf.cells (List.getD l i default)) i, List.length l = List.length l ∧ ∀ (i : Nat), i < List.length l → (fun i => Shf.cells (List.getD l i default)) i = (fun i => Shf.cells (List.getD l i default)) i] (by kernel_rfl) (by kernel_rfl) ⟨(by omega), rfl, ⟨rfl, fun _ _ => rfl⟩, ⟨rfl, fun _ _ => rfl⟩, trivial⟩ (by omega) (by show _ < _; omega)
    · have : k = l.length := by simp only [decide_eq_false_iff_not] at hc2; omega
      subst this
      refine good_run 2 (obs := []) (by kernel_rfl) trivial ?_
      refine good_leaveJ (by kernel_rfl) ?_
      refine good_run 7 (obs := []) (by kernel_rfl) trivial ?_
      refine good_fin [(0 : Int) = shelvesC l] (by kernel_rfl) ⟨?_, trivial⟩
      rw [← hk.2, errFrom_end]
def eqK (n : Int) : Int → Bool := fun k => decide (k = n)
theorem findI_eqK (l : List Int) (n : Int) : (findI l (eqK n) = -1 ∧ n ∉ l) ∨ ∃ k : Nat, k < l.length ∧ findI l (eqK n) = k ∧ l.getD k 0 = n ∧ n ∈ l := by
  rcases findI_cases l (eqK n) with ⟨h1, _, _, h3⟩ | ⟨k, hk, h1, _, _, h3, h4⟩
  · refine .inl ⟨h1, fun h => ?_⟩
    rw [List.any_eq_false] at h3
    exact h3 n h (by simp [eqK])
  · have h5 : l.getD k 0 = n := by simpa [eqK] using h3
    exact .inr ⟨k, hk, h1, h5, h5 ▸ getD_mem l 0 k hk⟩
theorem s73 (l : List Int) (n : Int) : Spec Try.prog 73 [ints l, .int .i64 n] (.int .i64 (findI l (eqK n))) := by
  refine spec_len 0 rfl (hasBody_of_slim Try.func73 F73_ok) fun hlen => ?_
  refine spec_of_good mixed Try.func73 F73_ok (by kernel_rfl) ?_
  refine good_run 14 (obs := []) (by kernel_rfl) trivial ?_
  refine good_loopJ (fun k : Nat => ⟨[(8, .sv (.int .i64 (k))), (7, LV.sv (SV.int IntKind.i64 (↑(List.length l) : Int))), (0, LV.sv (SV.lst (1 : Nat) (List.length l) fun i => [SV.int IntKind.i64 (List.getD l i (0 : Int))])), (1, LV.sv (SV.int IntKind.i64 n))], []⟩) (fun k => k ≤ l.length ∧ ∀ j, j < k → eqK n (l.getD j 0) = false) (fun k => l.length - k) (0) [(0 : Int) = (0 : Int), (↑(List.length l) : Int) = (↑(List.length l) : Int), List.length l = List.length l ∧ ∀ (i : Nat), i < List.length l → (fun i => [SV.int IntKind.i64 (List.getD l i (0 : Int))]) i = (fun i => [SV.int IntKind.i64 (List.getD l i (0 : Int))]) i, n = n] (by kernel_rfl) (by kernel_rfl) ⟨rfl, rfl, ⟨rfl, fun _ _ => rfl⟩, rfl, trivial⟩ ⟨by omega, by omega⟩ ?_
  intro k hk
  refine good_run 6 (obs := []) (by kernel_rfl) trivial ?_
  refine good_cond (decide ((↑k : Int) < (↑(List.length l) : Int))) (by kernel_rfl) (fun hc1 => ?_) (fun hc1 => ?_)
  · have hlt : k < l.length := by simp only [decide_eq_true_eq] at hc1; omega
    refine good_run 19 (obs := [(1 : Nat) = (1 : Nat) ∧ (0 : Int) ≤ (↑k : Int) ∧ (↑k : Int) < (↑(List.length l) : Int)]) (by kernel_rfl) (by (first | omega | assumption | exact ⟨rfl, trivial⟩ | simp only [AllP, inK_iff, roomOK_iff, decide_eq_true_eq, Bool.and_eq_true, Bool.or_eq_true, Bool.not_eq_true', decide_eq_false_iff_not, and_true, true_and]; (first | omega | (and_intros <;> intros <;> (try and_intros) <;> first | omega | assumption | exact trivial)))) ?_
    refine good_cond (decide (n = List.getD l k (0 : Int))) (by kernel_rfl) (fun hc2 => ?_) (fun hc2 => ?_)
    · have h2 : eqK n (l.getD k 0) = true := by simp only [decide_eq_true_eq] at hc2; simp only [eqK, decide_eq_true_eq]; omega
      have := findI_hit l (eqK n) k hlt h2 hk.2
      refine good_run 9 (obs := []) (by kernel_rfl) trivial ?_
      refine good_leaveJ (by kernel_rfl) ?_
      refine good_run 2 (obs := []) (by kernel_rfl) trivial ?_
      refine good_fin [(↑k : Int) = findI l (eqK n)] (by kernel_rfl) ⟨(by omega), trivial⟩
    · refine good_run 7 (obs := [InK IntKind.i64 ((↑k : Int) + (1 : Int))]) (by kernel_rfl) (by (first | omega | assumption | exact ⟨rfl, trivial⟩ | simp only [AllP, inK_iff, roomOK_iff, decide_eq_true_eq, Bool.and_eq_true, Bool.or_eq_true, Bool.not_eq_true', decide_eq_false_iff_not, and_true, true_and]; (first | omega | (and_intros <;> intros <;> (try and_intros) <;> first | omega | assumption | exact trivial)))) ?_
      refine good_backJ (k + 1) [(↑k : Int) + (1 : Int) = (↑(k + (1 : Nat)) : Int), (↑(List.length l) : Int) = (↑(List.length l) : Int), List.length l = List.length l ∧ ∀ (i : Nat), i < List.length l → (fun i => [SV.int IntKind.i64 (List.getD l i (0 : Int))]) i = (fun i => [SV.int IntKind.i64 (List.getD l i (0 : Int))]) i, n = n] (by kernel_rfl) (by kernel_rfl) ⟨(by omega), rfl, ⟨rfl, fun _ _ => rfl⟩, rfl, trivial⟩ ?_ (by show _ < _; omega)
      refine ⟨hlt, fun j hj => ?_⟩
      rcases Nat.lt_or_ge j k with h | h
      · exact hk.2 j h
      · have : j = k := by omega
        subst this
        simp only [decide_eq_false_iff_not] at hc2; simp only [eqK, decide_eq_false_iff_not]; omega
  · have : k = l.length := by simp only [decide_eq_false_iff_not] at hc1; omega
    subst this
    have := findI_none l (eqK n) hk.2
    refine good_run 2 (obs := []) (by kernel_rfl) trivial ?_
    refine good_leaveJ (by kernel_rfl) ?_
    refine good_run 7 (obs := []) (by kernel_rfl) trivial ?_
    refine good_fin [(-1 : Int) = findI l (eqK n)] (by kernel_rfl) ⟨(by omega), trivial⟩
def boxesOf (s : List Std) (id : Int) : List Int := (atK s Std.Shelf id).Boxes
def store (l : List Shf) (b : List Box) (s : List Std) : SV := .agg [shfs l, boxes b, stds s]
theorem s44 (l : List Shf) (b : List Box) (s : List Std) (id : Int) (hr : Asc l Shf.ID) (hl : l.length ≤ 100000) : Spec Try.prog 44 [store l b s, .int .i64 id] (.tup [Shf.sv (atK l Shf.ID id), .bool (isK l Shf.ID id)]) := by
  refine spec_of_good mixed Try.func44 F44_ok (by kernel_rfl) ?_
  rcases hasK_cases hr id with ⟨h1, h2, h3, h4⟩ | ⟨hp, h1, h2, h3, h4, h5⟩
  · have hd : atK l Shf.ID id = ⟨0, 0, 0, 0⟩ := h3
    rw [h2, hd]
    refine good_run 12 (obs := []) (by kernel_rfl) trivial ?_
    refine good_call (c := True) (by kernel_rfl) (fun _ => SVles.refl _) (fun _ => s66 (l) (id) (by (first | omega | assumption | exact ⟨rfl, trivial⟩ | simp only [AllP, inK_iff, roomOK_iff, decide_eq_true_eq, Bool.and_eq_true, Bool.or_eq_true, Bool.not_eq_true', decide_eq_false_iff_not, and_true, true_and]; (first | omega | (and_intros <;> intros <;> (try and_intros) <;> first | omega | assumption | exact trivial)))) (by (first | omega | assumption | exact ⟨rfl, trivial⟩ | simp only [AllP, inK_iff, roomOK_iff, decide_eq_true_eq, Bool.and_eq_true, Bool.or_eq_true, Bool.not_eq_true', decide_eq_false_iff_not, and_true, true_and]; (first | omega | (and_intros <;> intros <;> (try and_intros) <;> first | omega | assumption | exact trivial))))) (by kernel_rfl) ?_
    refine good_run 14 (obs := []) (by kernel_rfl) trivial ?_
    refine good_cond (!hasK l Shf.ID id) (by kernel_rfl) (fun hc1 => ?_) (fun hc1 => ?_)
    · refine good_run 9 (obs := [(4 : Nat) = (4 : Nat) ∧ (0 : Nat) + (4 : Nat) ≤ (4 : Nat)]) (by kernel_rfl) (by (first | omega | assumption | exact ⟨rfl, trivial⟩ | simp only [AllP, inK_iff, roomOK_iff, decide_eq_true_eq, Bool.and_eq_true, Bool.or_eq_true, Bool.not_eq_true', decide_eq_false_iff_not, and_true, true_and]; (first | omega | (and_intros <;> intros <;> (try and_intros) <;> first | omega | assumption | exact trivial)))) ?_
      refine good_fin [(0 : Int) = (0 : Int), (0 : Int) = (0 : Int), (0 : Int) = (0 : Int), (0 : Int) = (0 : Int), false = false] (by kernel_rfl) ⟨rfl, rfl, rfl, rfl, rfl, trivial⟩
    · rw [h1] at hc1; cases hc1
  · rw [h2, h3]
    refine good_run 12 (obs := []) (by kernel_rfl) trivial ?_
    refine good_call (c := True) (by kernel_rfl) (fun _ => SVles.refl _) (fun _ => s66 (l) (id) (by (first | omega | assumption | exact ⟨rfl, trivial⟩ | simp only [AllP, inK_iff, roomOK_iff, decide_eq_true_eq, Bool.and_eq_true, Bool.or_eq_true, Bool.not_eq_true', decide_eq_false_iff_not, and_true, true_and]; (first | omega | (and_intros <;> intros <;> (try and_intros) <;> first | omega | assumption | exact trivial)))) (by (first | omega | assumption | exact ⟨rfl, trivial⟩ | simp only [AllP, inK_iff, roomOK_iff, decide_eq_true_eq, Bool.and_eq_true, Bool.or_eq_true, Bool.not_eq_true', decide_eq_false_iff_not, and_true, true_and]; (first | omega | (and_intros <;> intros <;> (try and_intros) <;> first | omega | assumption | exact trivial))))) (by kernel_rfl) ?_
    refine good_run 14 (obs := []) (by kernel_rfl) trivial ?_
    refine good_cond (!hasK l Shf.ID id) (by kernel_rfl) (fun hc1 => ?_) (fun hc1 => ?_)
    · rw [h1] at hc1; cases hc1
    · refine good_run 13 (obs := [(4 : Nat) = (4 : Nat) ∧ (0 : Int) ≤ (↑(posK l Shf.ID id) : Int) ∧ (↑(posK l Shf.ID id) : Int) < (↑(List.length l) : Int), (0 : Nat) + (4 : Nat) ≤ (4 : Nat), (4 : Nat) = (4 : Nat) ∧ (0 : Nat) + (4 : Nat) ≤ (4 : Nat)]) (by kernel_rfl) (by (first | omega | assumption | exact ⟨rfl, trivial⟩ | simp only [AllP, inK_iff, roomOK_iff, decide_eq_true_eq, Bool.and_eq_true, Bool.or_eq_true, Bool.not_eq_true', decide_eq_false_iff_not, and_true, true_and]; (first | omega | (and_intros <;> intros <;> (try and_intros) <;> first | omega | assumption | exact trivial)))) ?_
      refine good_fin [(List.getD l (posK l Shf.ID id) default).ID = (List.getD l (posK l Shf.ID id) default).ID, (List.getD l (posK l Shf.ID id) default).Repository = (List.getD l (posK l Shf.ID id) default).Repository, (List.getD l (posK l Shf.ID id) default).Length = (List.getD l (posK l Shf.ID id) default).Length, (List.getD l (posK l Shf.ID id) default).Climate = (List.getD l (posK l Shf.ID id) default).Climate, true = true] (by kernel_rfl) ⟨rfl, rfl, rfl, rfl, rfl, trivial⟩
theorem s52 (l : List Shf) (b : List Box) (s : List Std) (id : Int) (hr : Asc b Box.ID) (hl : b.length ≤ 100000) : Spec Try.prog 52 [store l b s, .int .i64 id] (.tup [Box.sv (atK b Box.ID id), .bool (isK b Box.ID id)]) := by
  refine spec_of_good mixed Try.func52 F52_ok (by kernel_rfl) ?_
  rcases hasK_cases hr id with ⟨h1, h2, h3, h4⟩ | ⟨hp, h1, h2, h3, h4, h5⟩
  · have hd : atK b Box.ID id = ⟨0, 0, 0, 0, []⟩ := h3
    rw [h2, hd]
    refine good_run 12 (obs := []) (by kernel_rfl) trivial ?_
    refine good_call (c := True) (by kernel_rfl) (fun _ => SVles.refl _) (fun _ => s71 (b) (id) (by (first | omega | assumption | exact ⟨rfl, trivial⟩ | simp only [AllP, inK_iff, roomOK_iff, decide_eq_true_eq, Bool.and_eq_true, Bool.or_eq_true, Bool.not_eq_true', decide_eq_false_iff_not, and_true, true_and]; (first | omega | (and_intros <;> intros <;> (try and_intros) <;> first | omega | assumption | exact trivial)))) (by (first | omega | assumption | exact ⟨rfl, trivial⟩ | simp only [AllP, inK_iff, roomOK_iff, decide_eq_true_eq, Bool.and_eq_true, Bool.or_eq_true, Bool.not_eq_true', decide_eq_false_iff_not, and_true, true_and]; (first | omega | (and_intros <;> intros <;> (try and_intros) <;> first | omega | assumption | exact trivial))))) (by kernel_rfl) ?_
    refine good_run 14 (obs := []) (by kernel_rfl) trivial ?_
    refine good_cond (!hasK b Box.ID id) (by kernel_rfl) (fun hc1 => ?_) (fun hc1 => ?_)
    · refine good_run 9 (obs := [(5 : Nat) = (5 : Nat) ∧ (0 : Nat) + (5 : Nat) ≤ (5 : Nat)]) (by kernel_rfl) (by (first | omega | assumption | exact ⟨rfl, trivial⟩ | simp only [AllP, inK_iff, roomOK_iff, decide_eq_true_eq, Bool.and_eq_true, Bool.or_eq_true, Bool.not_eq_true', decide_eq_false_iff_not, and_true, true_and]; (first | omega | (and_intros <;> intros <;> (try and_intros) <;> first | omega | assumption | exact trivial)))) ?_
      refine good_fin [(0 : Int) = (0 : Int), (0 : Int) = (0 : Int), (0 : Int) = (0 : Int), (0 : Int) = (0 : Int), (0 : Nat) = (0 : Nat), false = false] (by kernel_rfl) ⟨rfl, rfl, rfl, rfl, rfl, rfl, trivial⟩
    · rw [h1] at hc1; cases hc1
  · rw [h2, h3]
    refine good_run 12 (obs := []) (by kernel_rfl) trivial ?_
    refine good_call (c := True) (by kernel_rfl) (fun _ => SVles.refl _) (fun _ => s71 (b) (id) (by (first | omega | assumption | exact ⟨rfl, trivial⟩ | simp only [AllP, inK_iff, roomOK_iff, decide_eq_true_eq, Bool.and_eq_true, Bool.or_eq_true, Bool.not_eq_true', decide_eq_false_iff_not, and_true, true_and]; (first | omega | (and_intros <;> intros <;> (try and_intros) <;> first | omega | assumption | exact trivial)))) (by (first | omega | assumption | exact ⟨rfl, trivial⟩ | simp only [AllP, inK_iff, roomOK_iff, decide_eq_true_eq, Bool.and_eq_true, Bool.or_eq_true, Bool.not_eq_true', decide_eq_false_iff_not, and_true, true_and]; (first | omega | (and_intros <;> intros <;> (try and_intros) <;> first | omega | assumption | exact trivial))))) (by kernel_rfl) ?_
    refine good_run 14 (obs := []) (by kernel_rfl) trivial ?_
    refine good_cond (!hasK b Box.ID id) (by kernel_rfl) (fun hc1 => ?_) (fun hc1 => ?_)
    · rw [h1] at hc1; cases hc1
    · refine good_run 13 (obs := [(5 : Nat) = (5 : Nat) ∧ (0 : Int) ≤ (↑(posK b Box.ID id) : Int) ∧ (↑(posK b Box.ID id) : Int) < (↑(List.length b) : Int), (0 : Nat) + (5 : Nat) ≤ (5 : Nat), (5 : Nat) = (5 : Nat) ∧ (0 : Nat) + (5 : Nat) ≤ (5 : Nat)]) (by kernel_rfl) (by (first | omega | assumption | exact ⟨rfl, trivial⟩ | simp only [AllP, inK_iff, roomOK_iff, decide_eq_true_eq, Bool.and_eq_true, Bool.or_eq_true, Bool.not_eq_true', decide_eq_false_iff_not, and_true, true_and]; (first | omega | (and_intros <;> intros <;> (try and_intros) <;> first | omega | assumption | exact trivial)))) ?_
      refine good_fin [(List.getD b (posK b Box.ID id) default).ID = (List.getD b (posK b Box.ID id) default).ID, (List.getD b (posK b Box.ID id) default).Width = (List.getD b (posK b Box.ID id) default).Width, (List.getD b (posK b Box.ID id) default).Room = (List.getD b (posK b Box.ID id) default).Room, (List.getD b (posK b Box.ID id) default).Climate = (List.getD b (posK b Box.ID id) default).Climate, List.length (List.getD b (posK b Box.ID id) default).Contents = List.length (List.getD b (posK b Box.ID id) default).Contents ∧ ∀ (i : Nat), i < List.length (List.getD b (posK b Box.ID id) default).Contents → (fun i => Content.cells (List.getD (List.getD b (posK b Box.ID id) default).Contents i default)) i = (fun i => Content.cells (List.getD (List.getD b (posK b Box.ID id) default).Contents i default)) i, true = true] (by kernel_rfl) ⟨rfl, rfl, rfl, rfl, ⟨rfl, fun _ _ => rfl⟩, rfl, trivial⟩
theorem s54 (l : List Shf) (b : List Box) (s : List Std) (id : Int) (hr : Asc s Std.Shelf) (hl : s.length ≤ 100000) : Spec Try.prog 54 [store l b s, .int .i64 id] (.tup [.int .i64 (posK s Std.Shelf id), .bool (hasK s Std.Shelf id)]) := by
  refine spec_of_good mixed Try.func54 F54_ok (by kernel_rfl) ?_
  refine good_run 12 (obs := []) (by kernel_rfl) trivial ?_
  refine good_call (c := True) (by kernel_rfl) (fun _ => SVles.refl _) (fun _ => s74 (s) (id) (by (first | omega | assumption | exact ⟨rfl, trivial⟩ | simp only [AllP, inK_iff, roomOK_iff, decide_eq_true_eq, Bool.and_eq_true, Bool.or_eq_true, Bool.not_eq_true', decide_eq_false_iff_not, and_true, true_and]; (first | omega | (and_intros <;> intros <;> (try and_intros) <;> first | omega | assumption | exact trivial)))) (by (first | omega | assumption | exact ⟨rfl, trivial⟩ | simp only [AllP, inK_iff, roomOK_iff, decide_eq_true_eq, Bool.and_eq_true, Bool.or_eq_true, Bool.not_eq_true', decide_eq_false_iff_not, and_true, true_and]; (first | omega | (and_intros <;> intros <;> (try and_intros) <;> first | omega | assumption | exact trivial))))) (by kernel_rfl) ?_
  refine good_run 7 (obs := []) (by kernel_rfl) trivial ?_
  refine good_fin [(↑(posK s Std.Shelf id) : Int) = (↑(posK s Std.Shelf id) : Int), hasK s Std.Shelf id = hasK s Std.Shelf id] (by kernel_rfl) ⟨rfl, rfl, trivial⟩
/-- Where a box stands: the index of its stand, and there. -/
def findP (id : Int) : Nat → List Std → Int × Int
  | _, [] => (-1, -1)
  | i, x :: r => if findI x.Boxes (eqK id) < 0 then findP id (i + 1) r else (i, findI x.Boxes (eqK id))
theorem s53 (l : List Shf) (b : List Box) (s : List Std) (id : Int) (hl : s.length ≤ 100000) : Spec Try.prog 53 [store l b s, .int .i64 id] (.tup [.int .i64 (findP id 0 s).1, .int .i64 (findP id 0 s).2]) := by
  refine spec_of_good mixed Try.func53 F53_ok (by kernel_rfl) ?_
  refine good_run 17 (obs := []) (by kernel_rfl) trivial ?_
  refine good_loopJ (fun k : Nat => ⟨[(12, .sv (.int .i64 (k))), (11, LV.sv (SV.int IntKind.i64 (↑(List.length s) : Int))), (10, LV.sv (SV.lst (2 : Nat) (List.length s) fun i => Std.cells (List.getD s i default))), (1, LV.sv (SV.int IntKind.i64 id))], [Blk.cells (73 : Nat) false [SV.lst (4 : Nat) (List.length l) fun i => Shf.cells (List.getD l i default), SV.lst (5 : Nat) (List.length b) fun i => Box.cells (List.getD b i default), SV.lst (2 : Nat) (List.length s) fun i => Std.cells (List.getD s i default)]]⟩) (fun k => k ≤ s.length ∧ findP id k (s.drop k) = findP id 0 s) (fun k => s.length - k) (0) [List.length l = List.length l ∧ ∀ (i : Nat), i < List.length l → (fun i => Shf.cells (List.getD l i default)) i = (fun i => Shf.cells (List.getD l i default)) i, List.length b = List.length b ∧ ∀ (i : Nat), i < List.length b → (fun i => Box.cells (List.getD b i default)) i = (fun i => Box.cells (List.getD b i default)) i, List.length s = List.length s ∧ ∀ (i : Nat), i < List.length s → (fun i => Std.cells (List.getD s i default)) i = (fun i => Std.cells (List.getD s i default)) i, (0 : Int) = (0 : Int), (↑(List.length s) : Int) = (↑(List.length s) : Int), List.length s = List.length s ∧ ∀ (i : Nat), i < List.length s → (fun i => Std.cells (List.getD s i default)) i = (fun i => Std.cells (List.getD s i default)) i, id = id] (by kernel_rfl) (by kernel_rfl) ⟨⟨rfl, fun _ _ => rfl⟩, ⟨rfl, fun _ _ => rfl⟩, ⟨rfl, fun _ _ => rfl⟩, rfl, rfl, ⟨rfl, fun _ _ => rfl⟩, rfl, trivial⟩ ⟨by omega, rfl⟩ ?_
  intro k hk
  refine good_run 6 (obs := []) (by kernel_rfl) trivial ?_
  refine good_cond (decide ((↑k : Int) < (↑(List.length s) : Int))) (by kernel_rfl) (fun hc1 => ?_) (fun hc1 => ?_)
  · have hlt : k < s.length := by simp only [decide_eq_true_eq] at hc1; omega
    have hw := hk.2
    rw [drop_cons s default k hlt, findP] at hw
    refine good_run 18 (obs := [(2 : Nat) = (2 : Nat) ∧ (0 : Int) ≤ (↑k : Int) ∧ (↑k : Int) < (↑(List.length s) : Int), (0 : Nat) + (2 : Nat) ≤ (2 : Nat), (2 : Nat) = (2 : Nat) ∧ (0 : Nat) + (2 : Nat) ≤ (2 : Nat)]) (by kernel_rfl) (by (first | omega | assumption | exact ⟨rfl, trivial⟩ | simp only [AllP, inK_iff, roomOK_iff, decide_eq_true_eq, Bool.and_eq_true, Bool.or_eq_true, Bool.not_eq_true', decide_eq_false_iff_not, and_true, true_and]; (first | omega | (and_intros <;> intros <;> (try and_intros) <;> first | omega | assumption | exact trivial)))) ?_
    refine good_call (c := True) (by kernel_rfl) (fun _ => SVles.refl _) (fun _ => s73 ((List.getD s k default).Boxes) (id)) (by kernel_rfl) ?_
    refine good_run 9 (obs := []) (by kernel_rfl) trivial ?_
    refine good_cond (decide ((0 : Int) ≤ findI (List.getD s k default).Boxes (eqK id))) (by kernel_rfl) (fun hc2 => ?_) (fun hc2 => ?_)
    · simp only [decide_eq_true_eq] at hc2
      rw [if_neg (by omega)] at hw
      refine good_run 11 (obs := []) (by kernel_rfl) trivial ?_
      refine good_leaveJ (by kernel_rfl) ?_
      refine good_run 2 (obs := []) (by kernel_rfl) trivial ?_
      refine good_fin [(↑k : Int) = (findP id (0 : Nat) s).fst, findI (List.getD s k default).Boxes (eqK id) = (findP id (0 : Nat) s).snd] (by kernel_rfl) ⟨?_, ?_, trivial⟩
      · rw [← hw]
      · rw [← hw]
    · simp only [decide_eq_false_iff_not] at hc2
      rw [if_pos (by omega)] at hw
      refine good_run 7 (obs := [InK IntKind.i64 ((↑k : Int) + (1 : Int))]) (by kernel_rfl) (by (first | omega | assumption | exact ⟨rfl, trivial⟩ | simp only [AllP, inK_iff, roomOK_iff, decide_eq_true_eq, Bool.and_eq_true, Bool.or_eq_true, Bool.not_eq_true', decide_eq_false_iff_not, and_true, true_and]; (first | omega | (and_intros <;> intros <;> (try and_intros) <;> first | omega | assumption | exact trivial)))) ?_
      refine good_backJ (k + 1) [List.length l = List.length l ∧ ∀ (i : Nat), i < List.length l → (fun i => Shf.cells (List.getD l i default)) i = (fun i => Shf.cells (List.getD l i default)) i, List.length b = List.length b ∧ ∀ (i : Nat), i < List.length b → (fun i => Box.cells (List.getD b i default)) i = (fun i => Box.cells (List.getD b i default)) i, List.length s = List.length s ∧ ∀ (i : Nat), i < List.length s → (fun i => Std.cells (List.getD s i default)) i = (fun i => Std.cells (List.getD s i default)) i, (↑k : Int) + (1 : Int) = (↑(k + (1 : Nat)) : Int), (↑(List.length s) : Int) = (↑(List.length s) : Int), List.length s = List.length s ∧ ∀ (i : Nat), i < List.length s → (fun i => Std.cells (List.getD s i default)) i = (fun i => Std.cells (List.getD s i default)) i, id = id] (by kernel_rfl) (by kernel_rfl) ⟨⟨rfl, fun _ _ => rfl⟩, ⟨rfl, fun _ _ => rfl⟩, ⟨rfl, fun _ _ => rfl⟩, (by omega), rfl, ⟨rfl, fun _ _ => rfl⟩, rfl, trivial⟩ ⟨by omega, by assumption⟩ (by show _ < _; omega)
  · have : k = s.length := by simp only [decide_eq_false_iff_not] at hc1; omega
    subst this
    have hw := hk.2
    rw [List.drop_length, findP] at hw
    refine good_run 2 (obs := []) (by kernel_rfl) trivial ?_
    refine good_leaveJ (by kernel_rfl) ?_
    refine good_run 8 (obs := []) (by kernel_rfl) trivial ?_
    refine good_fin [(-1 : Int) = (findP id (0 : Nat) s).fst, (-1 : Int) = (findP id (0 : Nat) s).snd] (by kernel_rfl) ⟨?_, ?_, trivial⟩
    · rw [← hw]
    · rw [← hw]
def widthI (b : List Box) : List Int → Int
  | [] => 0
  | id :: r => (atK b Box.ID id).Width + widthI b r
def wOK (b : List Box) : Prop := ∀ x ∈ b, 1 ≤ x.Width ∧ x.Width ≤ 10000
theorem wOK_at {b : List Box} (h : wOK b) (id : Int) : 0 ≤ (atK b Box.ID id).Width ∧ (atK b Box.ID id).Width ≤ 10000 := by
  rcases isK_cases b Box.ID id with ⟨_, h2, _⟩ | ⟨k, hk, _, h2, _⟩
  · rw [h2]; exact ⟨Int.le_refl _, by decide⟩
  · rw [h2]
    have := h _ (getD_mem b default k hk)
    omega
theorem widthI_append (b : List Box) : ∀ x y : List Int, widthI b (x ++ y) = widthI b x + widthI b y
  | [], y => by simp [widthI]
  | i :: x, y => by simp only [List.cons_append, widthI, widthI_append b x y]; omega
theorem widthI_bound {b : List Box} (h : wOK b) : ∀ x : List Int, 0 ≤ widthI b x ∧ widthI b x ≤ 10000 * x.length
  | [] => by simp [widthI]
  | i :: x => by
    have h1 := wOK_at h i
    have h2 := widthI_bound h x
    simp only [widthI, List.length_cons]; omega
theorem widthI_take {b : List Box} (h : wOK b) (x : List Int) (k : Nat) (hk : k < x.length) :
    widthI b (x.take (k + 1)) = widthI b (x.take k) + (atK b Box.ID (x.getD k 0)).Width ∧ 0 ≤ widthI b (x.take k) ∧ widthI b (x.take k) ≤ 10000 * k ∧ 0 ≤ (atK b Box.ID (x.getD k 0)).Width ∧ (atK b Box.ID (x.getD k 0)).Width ≤ 10000 := by
  have h1 := wOK_at h (x.getD k 0)
  have h2 := widthI_bound h (x.take k)
  rw [List.length_take, Nat.min_eq_left (by omega)] at h2
  refine ⟨?_, h2.1, h2.2, h1.1, h1.2⟩
  rw [take_snoc x 0 k hk, widthI_append]; simp [widthI]
end Go.Sx.T
