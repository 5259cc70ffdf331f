/- Contracts of functions of the program, each proved by running its code symbolically (HD). -/
import Derived.Test.YtgnffeajpmniiaaHB
import Derived.Test.YtgnffeajpmniiaaSx4
namespace Go.Sx.T
open Go Go.Proofs Go.Sx
set_option maxRecDepth 100000
set_option maxHeartbeats 4000000
set_option linter.unusedVariables false
set_option linter.unusedSimpArgs false
theorem dup_count (us vs : List Int) : dupB us vs = vs.any fun v => decide (1 < vs.count v) || decide (v ∈ us) := by
  rw [dupB_any]; congr 1; funext v; exact Bool.or_comm _ _
theorem mem_units (u : Int) : ∀ l : List Box, u ∈ units l ↔ ∃ j, j < l.length ∧ 0 < (unitsC (l.getD j default).Contents).count u
  | [] => by simp [units]
  | b :: r => by
    rw [units, List.mem_append, mem_units u r]
    constructor
    · rintro (h | ⟨j, hj, h⟩)
      · exact ⟨0, by simp, by simpa using List.count_pos_iff.2 h⟩
      · exact ⟨j + 1, by simp; omega, by simpa using h⟩
    · rintro ⟨j, hj, h⟩
      cases j with
      | zero => exact .inl (List.count_pos_iff.1 (by simpa using h))
      | succ j => exact .inr ⟨j, by simpa using hj, by simpa using h⟩
theorem s40 (l : List Box) : Spec Try.prog 40 [boxes l] (.int .i64 (check l)) := by
  refine spec_lenEl 0 rfl (hasBody_of_slim Try.func40 F40_ok) fun hlen hel => ?_
  refine spec_of_good mixed Try.func40 F40_ok (by kernel_rfl) ?_
  refine good_run 13 (obs := []) (by kernel_rfl) trivial ?_
  refine good_cond (decide ((128 : Int) < (↑(List.length l) : Int))) (by kernel_rfl) (fun hc1 => ?_) (fun hc1 => ?_)
  · simp only [decide_eq_true_eq] at hc1
    refine good_run 7 (obs := []) (by kernel_rfl) trivial ?_
    refine good_fin [(8 : Int) = check l] (by kernel_rfl) ⟨?_, trivial⟩
    rw [check, if_pos (by omega)]
  · simp only [decide_eq_false_iff_not] at hc1
    have hck : check l = errFrom (badAt l) l.length 0 := by rw [check, if_neg (by omega)]
    refine good_run 10 (obs := []) (by kernel_rfl) trivial ?_
    refine good_loopJ (fun k : Nat => ⟨[(15, .sv (.int .i64 (k))), (14, LV.sv (SV.int IntKind.i64 (↑(List.length l) : Int))), (13, LV.sv (SV.lst (5 : Nat) (List.length l) fun i => Box.cells (List.getD l i default))), (0, LV.sv (SV.lst (5 : Nat) (List.length l) fun i => Box.cells (List.getD l i default)))], []⟩) (fun k => k ≤ l.length ∧ errFrom (badAt l) (l.length - k) k = check l) (fun k => l.length - k) (0) [(0 : Int) = (0 : Int), (↑(List.length l) : Int) = (↑(List.length l) : Int), List.length l = List.length l ∧ ∀ (i : Nat), i < List.length l → (fun i => Box.cells (List.getD l i default)) i = (fun i => Box.cells (List.getD l i default)) i, List.length l = List.length l ∧ ∀ (i : Nat), i < List.length l → (fun i => Box.cells (List.getD l i default)) i = (fun i => Box.cells (List.getD l i default)) i] (by kernel_rfl) (by kernel_rfl) ⟨rfl, rfl, ⟨rfl, fun _ _ => rfl⟩, ⟨rfl, fun _ _ => rfl⟩, trivial⟩ ?_ ?_
    · exact ⟨Nat.zero_le _, by rw [hck]; rfl⟩
    intro k hk
    refine good_run 6 (obs := []) (by kernel_rfl) trivial ?_
    refine good_cond (decide ((↑k : Int) < (↑(List.length l) : Int))) (by kernel_rfl) (fun hc2 => ?_) (fun hc2 => ?_)
    · have hlt : k < l.length := by simp at hc2; omega
      have hst := errFrom_step (badAt l) l.length k hlt
      rw [hk.2] at hst
      have hcl := hel k 4 2 (l.getD k default).Contents.length _ hlt rfl
      have hb : badAt l k = if faultB (l.getD k default) ≠ 0 then faultB (l.getD k default) else if (decide (0 < k) && decide ((l.getD k default).ID ≤ (l.getD (k - 1) default).ID)) = true then 5
        else if dupB (units (l.take k)) (unitsC (l.getD k default).Contents) = true then 6 else 0 := rfl
      rw [dup_count] at hb
      refine good_run 17 (obs := [(5 : Nat) = (5 : Nat) ∧ (0 : Int) ≤ (↑k : Int) ∧ (↑k : Int) < (↑(List.length l) : Int), (0 : Nat) + (5 : Nat) ≤ (5 : Nat), (5 : Nat) = (5 : Nat) ∧ (0 : Nat) + (5 : Nat) ≤ (5 : Nat), (0 : Nat) + (5 : Nat) ≤ (5 : Nat)]) (by kernel_rfl) (by (first | omega | assumption | exact ⟨rfl, trivial⟩ | simp only [AllP, inK_iff, roomOK_iff, decide_eq_true_eq, Bool.and_eq_true, Bool.or_eq_true, Bool.not_eq_true', decide_eq_false_iff_not, and_true, true_and]; (first | omega | (and_intros <;> intros <;> (try and_intros) <;> first | omega | assumption | exact trivial)))) ?_
      refine good_call (c := True) (by kernel_rfl) (fun _ => SVles.refl _) (fun _ => s63 (List.getD l k default)) (by kernel_rfl) ?_
      refine good_run 9 (obs := []) (by kernel_rfl) trivial ?_
      refine good_cond (!decide (faultB (List.getD l k default) = (0 : Int))) (by kernel_rfl) (fun hc3 => ?_) (fun hc3 => ?_)
      · simp only [Bool.not_eq_true', decide_eq_false_iff_not] at hc3
        refine good_run 10 (obs := []) (by kernel_rfl) trivial ?_
        refine good_leaveJ (by kernel_rfl) ?_
        refine good_run 2 (obs := []) (by kernel_rfl) trivial ?_
        refine good_fin [faultB (List.getD l k default) = check l] (by kernel_rfl) ⟨(by omega), trivial⟩
        all_goals rw [hst, hb, if_pos hc3, if_pos hc3]
      · simp only [Bool.not_eq_false', decide_eq_true_eq] at hc3
        have e1 : ((k : Int) - 1).toNat = k - 1 := by omega
        have e2 : decide ((0 : Int) < (k : Int)) = decide (0 < k) := decide_eq_decide.2 (by omega)
        rw [if_neg (fun h => h hc3)] at hb
        refine good_run 19 (obs := [decide ((0 : Int) < (↑k : Int)) = true ∧ True → InK IntKind.i64 ((↑k : Int) - (1 : Int)), decide ((0 : Int) < (↑k : Int)) = true ∧ True → (5 : Nat) = (5 : Nat) ∧ (0 : Int) ≤ (↑k : Int) - (1 : Int) ∧ (↑k : Int) - (1 : Int) < (↑(List.length l) : Int)]) (by kernel_rfl) (by (first | omega | assumption | exact ⟨rfl, trivial⟩ | simp only [AllP, inK_iff, roomOK_iff, decide_eq_true_eq, Bool.and_eq_true, Bool.or_eq_true, Bool.not_eq_true', decide_eq_false_iff_not, and_true, true_and]; (first | omega | (and_intros <;> intros <;> (try and_intros) <;> first | omega | assumption | exact trivial)))) ?_
        refine good_cond (decide ((0 : Int) < (↑k : Int)) && decide ((List.getD l k default).ID ≤ (List.getD l (Int.toNat ((↑k : Int) - (1 : Int))) default).ID)) (by kernel_rfl) (fun hc4 => ?_) (fun hc4 => ?_)
        · rw [e1, e2] at hc4
          rw [if_pos hc4] at hb
          refine good_run 9 (obs := []) (by kernel_rfl) trivial ?_
          refine good_leaveJ (by kernel_rfl) ?_
          refine good_run 2 (obs := []) (by kernel_rfl) trivial ?_
          refine good_fin [(5 : Int) = check l] (by kernel_rfl) ⟨(by omega), trivial⟩
          all_goals (rw [hst, hb]; rfl)
        · rw [e1, e2] at hc4
          rw [if_neg (by rw [hc4]; decide)] at hb
          have hlk : (l.take k).length = k := by rw [List.length_take]; omega
          refine good_run 10 (obs := []) (by kernel_rfl) trivial ?_
          refine good_loopJ (fun j : Nat => ⟨[(41, .sv (.int .i64 (j))), (40, LV.sv (SV.int IntKind.i64 (↑(List.length (List.getD l k default).Contents) : Int))), (39, LV.sv (SV.lst (2 : Nat) (List.length (List.getD l k default).Contents) fun i => Content.cells (List.getD (List.getD l k default).Contents i default))), (3, LV.sv (SV.int IntKind.i64 (↑k : Int))), (4, LV.ptr (0 : Nat) (0 : Nat)), (15, LV.sv (SV.int IntKind.i64 (↑k : Int))), (14, LV.sv (SV.int IntKind.i64 (↑(List.length l) : Int))), (13, LV.sv (SV.lst (5 : Nat) (List.length l) fun i => Box.cells (List.getD l i default))), (0, LV.sv (SV.lst (5 : Nat) (List.length l) fun i => Box.cells (List.getD l i default)))], [Blk.cells (51 : Nat) false [SV.int IntKind.i64 (List.getD l k default).ID, SV.int IntKind.i64 (List.getD l k default).Width, SV.int IntKind.i64 (List.getD l k default).Room, SV.int IntKind.i64 (List.getD l k default).Climate, SV.lst (2 : Nat) (List.length (List.getD l k default).Contents) fun i => Content.cells (List.getD (List.getD l k default).Contents i default)]]⟩) (fun j => j ≤ (l.getD k default).Contents.length ∧ ∀ i, i < j → (decide (1 < (unitsC (l.getD k default).Contents).count ((l.getD k default).Contents.getD i default).Unit) || decide (((l.getD k default).Contents.getD i default).Unit ∈ units (l.take k))) = false) (fun j => (l.getD k default).Contents.length - j) (0) [(List.getD l k default).ID = (List.getD l k default).ID, (List.getD l k default).Width = (List.getD l k default).Width, (List.getD l k default).Room = (List.getD l k default).Room, (List.getD l k default).Climate = (List.getD l k default).Climate, List.length (List.getD l k default).Contents = List.length (List.getD l k default).Contents ∧ ∀ (i : Nat), i < List.length (List.getD l k default).Contents → (fun i => Content.cells (List.getD (List.getD l k default).Contents i default)) i = (fun i => Content.cells (List.getD (List.getD l k default).Contents i default)) i, (0 : Int) = (0 : Int), (↑(List.length (List.getD l k default).Contents) : Int) = (↑(List.length (List.getD l k default).Contents) : Int), List.length (List.getD l k default).Contents = List.length (List.getD l k default).Contents ∧ ∀ (i : Nat), i < List.length (List.getD l k default).Contents → (fun i => Content.cells (List.getD (List.getD l k default).Contents i default)) i = (fun i => Content.cells (List.getD (List.getD l k default).Contents i default)) i, (↑k : Int) = (↑k : Int), (↑k : Int) = (↑k : Int), (↑(List.length l) : Int) = (↑(List.length l) : Int), List.length l = List.length l ∧ ∀ (i : Nat), i < List.length l → (fun i => Box.cells (List.getD l i default)) i = (fun i => Box.cells (List.getD l i default)) i, List.length l = List.length l ∧ ∀ (i : Nat), i < List.length l → (fun i => Box.cells (List.getD l i default)) i = (fun i => Box.cells (List.getD l i default)) i] (by kernel_rfl) (by kernel_rfl) ⟨rfl, rfl, rfl, rfl, ⟨rfl, fun _ _ => rfl⟩, rfl, rfl, ⟨rfl, fun _ _ => rfl⟩, rfl, rfl, rfl, ⟨rfl, fun _ _ => rfl⟩, ⟨rfl, fun _ _ => rfl⟩, trivial⟩ ⟨by omega, by omega⟩ ?_
          intro j hj
          refine good_run 6 (obs := []) (by kernel_rfl) trivial ?_
          refine good_cond (decide ((↑j : Int) < (↑(List.length (List.getD l k default).Contents) : Int))) (by kernel_rfl) (fun hc5 => ?_) (fun hc5 => ?_)
          · have hjt : j < (l.getD k default).Contents.length := by simp only [decide_eq_true_eq] at hc5; exact Int.ofNat_lt.1 hc5
            have hmem : ((l.getD k default).Contents.getD j default).Unit ∈ unitsC (l.getD k default).Contents := List.mem_map.2 ⟨_, getD_mem _ default j hjt, rfl⟩
            refine good_run 17 (obs := [(2 : Nat) = (2 : Nat) ∧ (0 : Int) ≤ (↑j : Int) ∧ (↑j : Int) < (↑(List.length (List.getD l k default).Contents) : Int), (0 : Nat) + (2 : Nat) ≤ (2 : Nat), (2 : Nat) = (2 : Nat) ∧ (0 : Nat) + (2 : Nat) ≤ (2 : Nat), (0 : Nat) + (5 : Nat) ≤ (5 : Nat)]) (by kernel_rfl) (by (first | omega | assumption | exact ⟨rfl, trivial⟩ | simp only [AllP, inK_iff, roomOK_iff, decide_eq_true_eq, Bool.and_eq_true, Bool.or_eq_true, Bool.not_eq_true', decide_eq_false_iff_not, and_true, true_and]; (first | omega | (and_intros <;> intros <;> (try and_intros) <;> first | omega | assumption | exact trivial)))) ?_
            refine good_call (c := True) (by kernel_rfl) (fun _ => SVles.refl _) (fun _ => s64 (List.getD l k default) ((List.getD (List.getD l k default).Contents j default).Unit)) (by kernel_rfl) ?_
            refine good_run 3 (obs := []) (by kernel_rfl) trivial ?_
            refine good_cond (decide ((1 : Int) < (↑(List.count (List.getD (List.getD l k default).Contents j default).Unit (unitsC (List.getD l k default).Contents)) : Int))) (by kernel_rfl) (fun hc6 => ?_) (fun hc6 => ?_)
            · simp only [decide_eq_true_eq] at hc6
              have : badAt l k = 6 := by
                rw [hb, if_pos]
                rw [List.any_eq_true]
                exact ⟨_, hmem, by rw [Bool.or_eq_true, decide_eq_true_eq]; left; omega⟩
              refine good_run 9 (obs := []) (by kernel_rfl) trivial ?_
              refine good_leaveJ (by kernel_rfl) ?_
              refine good_run 3 (obs := []) (by kernel_rfl) trivial ?_
              refine good_leaveJ (by kernel_rfl) ?_
              refine good_run 2 (obs := []) (by kernel_rfl) trivial ?_
              refine good_fin [(6 : Int) = check l] (by kernel_rfl) ⟨(by omega), trivial⟩
              all_goals (rw [hst, this]; rfl)
            · simp only [decide_eq_false_iff_not] at hc6
              refine good_run 11 (obs := [(5 : Nat) = (5 : Nat) ∧ (0 : Int) ≤ (0 : Int) ∧ (0 : Int) ≤ (↑k : Int) ∧ (↑k : Int) ≤ (↑(List.length l) : Int)]) (by kernel_rfl) (by (first | omega | assumption | exact ⟨rfl, trivial⟩ | simp only [AllP, inK_iff, roomOK_iff, decide_eq_true_eq, Bool.and_eq_true, Bool.or_eq_true, Bool.not_eq_true', decide_eq_false_iff_not, and_true, true_and]; (first | omega | (and_intros <;> intros <;> (try and_intros) <;> first | omega | assumption | exact trivial)))) ?_
              refine good_loopJ (fun i : Nat => ⟨[(54, .sv (.int .i64 (i))), (53, .sv (.int .i64 (k))), (52, .sv (.lst 5 k fun i => Box.cells (l.getD i default))), (7, LV.ptr (1 : Nat) (0 : Nat)), (41, LV.sv (SV.int IntKind.i64 (↑j : Int))), (40, LV.sv (SV.int IntKind.i64 (↑(List.length (List.getD l k default).Contents) : Int))), (39, LV.sv (SV.lst (2 : Nat) (List.length (List.getD l k default).Contents) fun i => Content.cells (List.getD (List.getD l k default).Contents i default))), (3, LV.sv (SV.int IntKind.i64 (↑k : Int))), (4, LV.ptr (0 : Nat) (0 : Nat)), (15, LV.sv (SV.int IntKind.i64 (↑k : Int))), (14, LV.sv (SV.int IntKind.i64 (↑(List.length l) : Int))), (13, LV.sv (SV.lst (5 : Nat) (List.length l) fun i => Box.cells (List.getD l i default))), (0, LV.sv (SV.lst (5 : Nat) (List.length l) fun i => Box.cells (List.getD l i default)))], [Blk.cells (51 : Nat) false [SV.int IntKind.i64 (List.getD l k default).ID, SV.int IntKind.i64 (List.getD l k default).Width, SV.int IntKind.i64 (List.getD l k default).Room, SV.int IntKind.i64 (List.getD l k default).Climate, SV.lst (2 : Nat) (List.length (List.getD l k default).Contents) fun i => Content.cells (List.getD (List.getD l k default).Contents i default)], Blk.cells (100 : Nat) false [SV.int IntKind.i64 (List.getD (List.getD l k default).Contents j default).Unit, SV.int IntKind.i64 (List.getD (List.getD l k default).Contents j default).Thick]]⟩) (fun i => i ≤ k ∧ ∀ m, m < i → (unitsC (l.getD m default).Contents).count ((l.getD k default).Contents.getD j default).Unit = 0) (fun i => k - i) (0) [(List.getD l k default).ID = (List.getD l k default).ID, (List.getD l k default).Width = (List.getD l k default).Width, (List.getD l k default).Room = (List.getD l k default).Room, (List.getD l k default).Climate = (List.getD l k default).Climate, List.length (List.getD l k default).Contents = List.length (List.getD l k default).Contents ∧ ∀ (i : Nat), i < List.length (List.getD l k default).Contents → (fun i => Content.cells (List.getD (List.getD l k default).Contents i default)) i = (fun i => Content.cells (List.getD (List.getD l k default).Contents i default)) i, (List.getD (List.getD l k default).Contents j default).Unit = (List.getD (List.getD l k default).Contents j default).Unit, (List.getD (List.getD l k default).Contents j default).Thick = (List.getD (List.getD l k default).Contents j default).Thick, (0 : Int) = (0 : Int), (↑(k - (0 : Nat)) : Int) = (↑k : Int), k - (0 : Nat) = k ∧ ∀ (i : Nat), i < k - (0 : Nat) → (fun i => (fun i => Box.cells (List.getD l i default)) (Int.toNat (0 : Int) + i)) i = (fun i => Box.cells (List.getD l i default)) i, (↑j : Int) = (↑j : Int), (↑(List.length (List.getD l k default).Contents) : Int) = (↑(List.length (List.getD l k default).Contents) : Int), List.length (List.getD l k default).Contents = List.length (List.getD l k default).Contents ∧ ∀ (i : Nat), i < List.length (List.getD l k default).Contents → (fun i => Content.cells (List.getD (List.getD l k default).Contents i default)) i = (fun i => Content.cells (List.getD (List.getD l k default).Contents i default)) i, (↑k : Int) = (↑k : Int), (↑k : Int) = (↑k : Int), (↑(List.length l) : Int) = (↑(List.length l) : Int), List.length l = List.length l ∧ ∀ (i : Nat), i < List.length l → (fun i => Box.cells (List.getD l i default)) i = (fun i => Box.cells (List.getD l i default)) i, List.length l = List.length l ∧ ∀ (i : Nat), i < List.length l → (fun i => Box.cells (List.getD l i default)) i = (fun i => Box.cells (List.getD l i default)) i] (by kernel_rfl) (by kernel_rfl) ⟨rfl, rfl, rfl, rfl, ⟨rfl, fun _ _ => rfl⟩, rfl, rfl, rfl, (by omega), ?_, rfl, rfl, ⟨rfl, fun _ _ => rfl⟩, rfl, rfl, rfl, ⟨rfl, fun _ _ => rfl⟩, ⟨rfl, fun _ _ => rfl⟩, trivial⟩ ⟨by omega, by omega⟩ ?_
              · exact ⟨rfl, fun i hi => by simp⟩
              intro i hi
              refine good_run 6 (obs := []) (by kernel_rfl) trivial ?_
              refine good_cond (decide ((↑i : Int) < (↑k : Int))) (by kernel_rfl) (fun hc7 => ?_) (fun hc7 => ?_)
              · have hik : i < k := by simp only [decide_eq_true_eq] at hc7; exact Int.ofNat_lt.1 hc7
                refine good_run 16 (obs := [(5 : Nat) = (5 : Nat) ∧ (0 : Int) ≤ (↑i : Int) ∧ (↑i : Int) < (↑k : Int), (0 : Nat) + (5 : Nat) ≤ (5 : Nat), (5 : Nat) = (5 : Nat) ∧ (0 : Nat) + (5 : Nat) ≤ (5 : Nat), (0 : Nat) + (5 : Nat) ≤ (5 : Nat)]) (by kernel_rfl) (by (first | omega | assumption | exact ⟨rfl, trivial⟩ | simp only [AllP, inK_iff, roomOK_iff, decide_eq_true_eq, Bool.and_eq_true, Bool.or_eq_true, Bool.not_eq_true', decide_eq_false_iff_not, and_true, true_and]; (first | omega | (and_intros <;> intros <;> (try and_intros) <;> first | omega | assumption | exact trivial)))) ?_
                refine good_call (c := True) (by kernel_rfl) (fun _ => SVles.refl _) (fun _ => s64 (List.getD l i default) ((List.getD (List.getD l k default).Contents j default).Unit)) (by kernel_rfl) ?_
                refine good_run 3 (obs := []) (by kernel_rfl) trivial ?_
                refine good_cond (decide ((0 : Int) < (↑(List.count (List.getD (List.getD l k default).Contents j default).Unit (unitsC (List.getD l i default).Contents)) : Int))) (by kernel_rfl) (fun hc8 => ?_) (fun hc8 => ?_)
                · simp only [decide_eq_true_eq] at hc8
                  have : badAt l k = 6 := by
                    rw [hb, if_pos]
                    rw [List.any_eq_true]
                    refine ⟨_, hmem, ?_⟩
                    rw [Bool.or_eq_true, decide_eq_true_eq, decide_eq_true_eq]; right
                    rw [mem_units]
                    refine ⟨i, by omega, ?_⟩
                    rw [getD_take _ _ _ hik]
                    exact Int.ofNat_lt.1 hc8
                  refine good_run 8 (obs := []) (by kernel_rfl) trivial ?_
                  refine good_leaveJ (by kernel_rfl) ?_
                  refine good_run 3 (obs := []) (by kernel_rfl) trivial ?_
                  refine good_leaveJ (by kernel_rfl) ?_
                  refine good_run 3 (obs := []) (by kernel_rfl) trivial ?_
                  refine good_leaveJ (by kernel_rfl) ?_
                  refine good_run 2 (obs := []) (by kernel_rfl) trivial ?_
                  refine good_fin [(6 : Int) = check l] (by kernel_rfl) ⟨(by omega), trivial⟩
                  all_goals (rw [hst, this]; rfl)
                · simp only [decide_eq_false_iff_not] at hc8
                  refine good_run 7 (obs := [InK IntKind.i64 ((↑i : Int) + (1 : Int))]) (by kernel_rfl) (by (first | omega | assumption | exact ⟨rfl, trivial⟩ | simp only [AllP, inK_iff, roomOK_iff, decide_eq_true_eq, Bool.and_eq_true, Bool.or_eq_true, Bool.not_eq_true', decide_eq_false_iff_not, and_true, true_and]; (first | omega | (and_intros <;> intros <;> (try and_intros) <;> first | omega | assumption | exact trivial)))) ?_
                  refine good_backJ (i + 1) [(List.getD l k default).ID = (List.getD l k default).ID, (List.getD l k default).Width = (List.getD l k default).Width, (List.getD l k default).Room = (List.getD l k default).Room, (List.getD l k default).Climate = (List.getD l k default).Climate, List.length (List.getD l k default).Contents = List.length (List.getD l k default).Contents ∧ ∀ (i : Nat), i < List.length (List.getD l k default).Contents → (fun i => Content.cells (List.getD (List.getD l k default).Contents i default)) i = (fun i => Content.cells (List.getD (List.getD l k default).Contents i default)) i, (List.getD (List.getD l k default).Contents j default).Unit = (List.getD (List.getD l k default).Contents j default).Unit, (List.getD (List.getD l k default).Contents j default).Thick = (List.getD (List.getD l k default).Contents j default).Thick, (↑i : Int) + (1 : Int) = (↑(i + (1 : Nat)) : Int), (↑k : Int) = (↑k : Int), k = k ∧ ∀ (i : Nat), i < k → (fun i => Box.cells (List.getD l i default)) i = (fun i => Box.cells (List.getD l i default)) i, (↑j : Int) = (↑j : Int), (↑(List.length (List.getD l k default).Contents) : Int) = (↑(List.length (List.getD l k default).Contents) : Int), List.length (List.getD l k default).Contents = List.length (List.getD l k default).Contents ∧ ∀ (i : Nat), i < List.length (List.getD l k default).Contents → (fun i => Content.cells (List.getD (List.getD l k default).Contents i default)) i = (fun i => Content.cells (List.getD (List.getD l k default).Contents i default)) i, (↑k : Int) = (↑k : Int), (↑k : Int) = (↑k : Int), (↑(List.length l) : Int) = (↑(List.length l) : Int), List.length l = List.length l ∧ ∀ (i : Nat), i < List.length l → (fun i => Box.cells (List.getD l i default)) i = (fun i => Box.cells (List.getD l i default)) i, List.length l = List.length l ∧ ∀ (i : Nat), i < List.length l → (fun i => Box.cells (List.getD l i default)) i = (fun i => Box.cells (List.getD l i default)) i] (by kernel_rfl) (by kernel_rfl) ⟨rfl, rfl, rfl, rfl, ⟨rfl, fun _ _ => rfl⟩, rfl, rfl, (by omega), rfl, ⟨rfl, fun _ _ => rfl⟩, rfl, rfl, ⟨rfl, fun _ _ => rfl⟩, rfl, rfl, rfl, ⟨rfl, fun _ _ => rfl⟩, ⟨rfl, fun _ _ => rfl⟩, trivial⟩ ?_ (by show _ < _; omega)
                  refine ⟨hik, fun m hm => ?_⟩
                  rcases Nat.lt_or_ge m i with h | h
                  · exact hi.2 m h
                  · have : m = i := by omega
                    subst this; omega
              · have hik : i = k := by simp only [decide_eq_false_iff_not] at hc7; omega
                subst hik
                refine good_run 2 (obs := []) (by kernel_rfl) trivial ?_
                refine good_leaveJ (by kernel_rfl) ?_
                refine good_run 7 (obs := [InK IntKind.i64 ((↑j : Int) + (1 : Int))]) (by kernel_rfl) (by (first | omega | assumption | exact ⟨rfl, trivial⟩ | simp only [AllP, inK_iff, roomOK_iff, decide_eq_true_eq, Bool.and_eq_true, Bool.or_eq_true, Bool.not_eq_true', decide_eq_false_iff_not, and_true, true_and]; (first | omega | (and_intros <;> intros <;> (try and_intros) <;> first | omega | assumption | exact trivial)))) ?_
                refine good_backJ (j + 1) [(List.getD l i default).ID = (List.getD l i default).ID, (List.getD l i default).Width = (List.getD l i default).Width, (List.getD l i default).Room = (List.getD l i default).Room, (List.getD l i default).Climate = (List.getD l i default).Climate, List.length (List.getD l i default).Contents = List.length (List.getD l i default).Contents ∧ ∀ (i_1 : Nat), i_1 < List.length (List.getD l i default).Contents → (fun i_2 => Content.cells (List.getD (List.getD l i default).Contents i_2 default)) i_1 = (fun i_2 => Content.cells (List.getD (List.getD l i default).Contents i_2 default)) i_1, (↑j : Int) + (1 : Int) = (↑(j + (1 : Nat)) : Int), (↑(List.length (List.getD l i default).Contents) : Int) = (↑(List.length (List.getD l i default).Contents) : Int), List.length (List.getD l i default).Contents = List.length (List.getD l i default).Contents ∧ ∀ (i_1 : Nat), i_1 < List.length (List.getD l i default).Contents → (fun i_2 => Content.cells (List.getD (List.getD l i default).Contents i_2 default)) i_1 = (fun i_2 => Content.cells (List.getD (List.getD l i default).Contents i_2 default)) i_1, (↑i : Int) = (↑i : Int), (↑i : Int) = (↑i : Int), (↑(List.length l) : Int) = (↑(List.length l) : Int), List.length l = List.length l ∧ ∀ (i : Nat), i < List.length l → (fun i => Box.cells (List.getD l i default)) i = (fun i => Box.cells (List.getD l i default)) i, List.length l = List.length l ∧ ∀ (i : Nat), i < List.length l → (fun i => Box.cells (List.getD l i default)) i = (fun i => Box.cells (List.getD l i default)) i] (by kernel_rfl) (by kernel_rfl) ⟨rfl, rfl, rfl, rfl, ⟨rfl, fun _ _ => rfl⟩, (by omega), rfl, ⟨rfl, fun _ _ => rfl⟩, rfl, rfl, rfl, ⟨rfl, fun _ _ => rfl⟩, ⟨rfl, fun _ _ => rfl⟩, trivial⟩ ?_ (by show _ < _; omega)
                refine ⟨hjt, fun m hm => ?_⟩
                rcases Nat.lt_or_ge m j with h | h
                · exact hj.2 m h
                · have : m = j := by omega
                  subst this
                  rw [Bool.or_eq_false_iff, decide_eq_false_iff_not, decide_eq_false_iff_not]
                  refine ⟨by omega, fun hm => ?_⟩
                  obtain ⟨q, hq, h0⟩ := (mem_units _ _).1 hm
                  rw [hlk] at hq
                  rw [getD_take _ _ _ hq] at h0
                  have := hi.2 q hq
                  omega
          · have hjt : j = (l.getD k default).Contents.length := by
              simp only [decide_eq_false_iff_not] at hc5
              have := hj.1
              omega
            have : badAt l k = 0 := by
              rw [hb, if_neg]
              rw [List.any_eq_true]
              rintro ⟨u, hu, h⟩
              obtain ⟨c, hc, rfl⟩ := List.mem_map.1 hu
              obtain ⟨i, hi, e⟩ := List.mem_iff_getElem.1 hc
              have := hj.2 i (by omega)
              rw [getD_of_lt _ i hi, e, h] at this
              cases this
            rw [this] at hst
            refine good_run 2 (obs := []) (by kernel_rfl) trivial ?_
            refine good_leaveJ (by kernel_rfl) ?_
            refine good_run 7 (obs := [InK IntKind.i64 ((↑k : Int) + (1 : Int))]) (by kernel_rfl) (by (first | omega | assumption | exact ⟨rfl, trivial⟩ | simp only [AllP, inK_iff, roomOK_iff, decide_eq_true_eq, Bool.and_eq_true, Bool.or_eq_true, Bool.not_eq_true', decide_eq_false_iff_not, and_true, true_and]; (first | omega | (and_intros <;> intros <;> (try and_intros) <;> first | omega | assumption | exact trivial)))) ?_
            refine good_backJ (k + 1) [(↑k : Int) + (1 : Int) = (↑(k + (1 : Nat)) : Int), (↑(List.length l) : Int) = (↑(List.length l) : Int), List.length l = List.length l ∧ ∀ (i : Nat), i < List.length l → (fun i => Box.cells (List.getD l i default)) i = (fun i => Box.cells (List.getD l i default)) i, List.length l = List.length l ∧ ∀ (i : Nat), i < List.length l → (fun i => Box.cells (List.getD l i default)) i = (fun i => Box.cells (List.getD l i default)) i] (by kernel_rfl) (by kernel_rfl) ⟨(by omega), rfl, ⟨rfl, fun _ _ => rfl⟩, ⟨rfl, fun _ _ => rfl⟩, trivial⟩ (by omega) (by show _ < _; omega)
    · have : k = l.length := by simp at hc2; omega
      subst this
      refine good_run 2 (obs := []) (by kernel_rfl) trivial ?_
      refine good_leaveJ (by kernel_rfl) ?_
      refine good_run 7 (obs := []) (by kernel_rfl) trivial ?_
      refine good_fin [(0 : Int) = check l] (by kernel_rfl) ⟨?_, trivial⟩
      rw [← hk.2, errFrom_end]
def fewB (l : List Box) : Bool := l.all (fun b => decide (b.Contents.length ≤ 40)) && decide (l.length ≤ 20)
theorem s60 (l : List Box) : Spec Try.prog 60 [boxes l] (.bool (fewB l)) := by
  refine spec_len 0 rfl (hasBody_of_slim Try.func60 F60_ok) fun hlen => ?_
  refine spec_of_good mixed Try.func60 F60_ok (by kernel_rfl) ?_
  refine good_run 14 (obs := []) (by kernel_rfl) trivial ?_
  refine good_loopJ (fun k : Nat => ⟨[(7, .sv (.int .i64 (k))), (6, LV.sv (SV.int IntKind.i64 (↑(List.length l) : Int))), (5, LV.sv (SV.lst (5 : Nat) (List.length l) fun i => Box.cells (List.getD l i default))), (0, LV.sv (SV.lst (5 : Nat) (List.length l) fun i => Box.cells (List.getD l i default)))], []⟩) (fun k => k ≤ l.length ∧ ∀ j, j < k → (l.getD j default).Contents.length ≤ 40) (fun k => l.length - k) (0) [(0 : Int) = (0 : Int), (↑(List.length l) : Int) = (↑(List.length l) : Int), List.length l = List.length l ∧ ∀ (i : Nat), i < List.length l → (fun i => Box.cells (List.getD l i default)) i = (fun i => Box.cells (List.getD l i default)) i, List.length l = List.length l ∧ ∀ (i : Nat), i < List.length l → (fun i => Box.cells (List.getD l i default)) i = (fun i => Box.cells (List.getD l i default)) i] (by kernel_rfl) (by kernel_rfl) ⟨rfl, rfl, ⟨rfl, fun _ _ => rfl⟩, ⟨rfl, fun _ _ => rfl⟩, trivial⟩ ⟨by omega, by omega⟩ ?_
  intro k hk
  refine good_run 6 (obs := []) (by kernel_rfl) trivial ?_
  refine good_cond (decide ((↑k : Int) < (↑(List.length l) : Int))) (by kernel_rfl) (fun hc1 => ?_) (fun hc1 => ?_)
  · have hlt : k < l.length := by simp at hc1; omega
    refine good_run 19 (obs := [(5 : Nat) = (5 : Nat) ∧ (0 : Int) ≤ (↑k : Int) ∧ (↑k : Int) < (↑(List.length l) : Int), (0 : Nat) + (5 : Nat) ≤ (5 : Nat), (5 : Nat) = (5 : Nat) ∧ (0 : Nat) + (5 : Nat) ≤ (5 : Nat)]) (by kernel_rfl) (by (first | omega | assumption | exact ⟨rfl, trivial⟩ | simp only [AllP, inK_iff, roomOK_iff, decide_eq_true_eq, Bool.and_eq_true, Bool.or_eq_true, Bool.not_eq_true', decide_eq_false_iff_not, and_true, true_and]; (first | omega | (and_intros <;> intros <;> (try and_intros) <;> first | omega | assumption | exact trivial)))) ?_
    refine good_cond (decide ((40 : Int) < (↑(List.length (List.getD l k default).Contents) : Int))) (by kernel_rfl) (fun hc2 => ?_) (fun hc2 => ?_)
    · simp only [decide_eq_true_eq] at hc2
      have : fewB l = false := by
        rw [fewB, Bool.and_eq_false_iff]
        left
        rw [List.all_eq_false]
        exact ⟨_, getD_mem l default k hlt, by rw [decide_eq_true_eq]; omega⟩
      refine good_run 8 (obs := []) (by kernel_rfl) trivial ?_
      refine good_leaveJ (by kernel_rfl) ?_
      refine good_run 2 (obs := []) (by kernel_rfl) trivial ?_
      refine good_fin [false = fewB l] (by kernel_rfl) ⟨?_, trivial⟩
      all_goals exact this.symm
    · simp only [decide_eq_false_iff_not] at hc2
      refine good_run 7 (obs := [InK IntKind.i64 ((↑k : Int) + (1 : Int))]) (by kernel_rfl) (by (first | omega | assumption | exact ⟨rfl, trivial⟩ | simp only [AllP, inK_iff, roomOK_iff, decide_eq_true_eq, Bool.and_eq_true, Bool.or_eq_true, Bool.not_eq_true', decide_eq_false_iff_not, and_true, true_and]; (first | omega | (and_intros <;> intros <;> (try and_intros) <;> first | omega | assumption | exact trivial)))) ?_
      refine good_backJ (k + 1) [(↑k : Int) + (1 : Int) = (↑(k + (1 : Nat)) : Int), (↑(List.length l) : Int) = (↑(List.length l) : Int), List.length l = List.length l ∧ ∀ (i : Nat), i < List.length l → (fun i => Box.cells (List.getD l i default)) i = (fun i => Box.cells (List.getD l i default)) i, List.length l = List.length l ∧ ∀ (i : Nat), i < List.length l → (fun i => Box.cells (List.getD l i default)) i = (fun i => Box.cells (List.getD l i default)) i] (by kernel_rfl) (by kernel_rfl) ⟨(by omega), rfl, ⟨rfl, fun _ _ => rfl⟩, ⟨rfl, fun _ _ => rfl⟩, trivial⟩ ?_ (by show _ < _; omega)
      refine ⟨by omega, fun j hj => ?_⟩
      rcases Nat.lt_or_ge j k with h | h
      · exact hk.2 j h
      · have : j = k := by omega
        subst this; omega
  · have : k = l.length := by simp at hc1; omega
    subst this
    have : fewB l = decide ((l.length : Int) ≤ 20) := by
      have h1 : l.all (fun b => decide (b.Contents.length ≤ 40)) = true := by
        rw [List.all_eq_true]
        intro c hc
        obtain ⟨i, hi, e⟩ := List.mem_iff_getElem.1 hc
        have := hk.2 i hi
        rw [getD_of_lt _ i hi, e] at this
        simpa using this
      rw [fewB, h1, Bool.true_and]
      exact decide_eq_decide.2 (by omega)
    refine good_run 2 (obs := []) (by kernel_rfl) trivial ?_
    refine good_leaveJ (by kernel_rfl) ?_
    refine good_run 10 (obs := []) (by kernel_rfl) trivial ?_
    refine good_fin [decide ((↑(List.length l) : Int) ≤ (20 : Int)) = fewB l] (by kernel_rfl) ⟨?_, trivial⟩
    all_goals exact this.symm
theorem fewB_spec {l : List Box} (h : fewB l = true) : l.length ≤ 20 ∧ ∀ b ∈ l, b.Contents.length ≤ 40 := by
  simp only [fewB, Bool.and_eq_true, List.all_eq_true, decide_eq_true_eq] at h
  exact ⟨h.2, h.1⟩
theorem s42 (l : List Box) (h : l.length ≤ 100000) (hl : ∀ b ∈ l, b.Contents.length ≤ 100000) : SpecOwn Try.prog 42 [boxes l] 51 5 l.length fun i => (l.getD i default).cells := by
  refine specOwn_of_good mixed Try.func42 F42_ok (by kernel_rfl) ?_
  refine good_run 22 (obs := [(51 : Nat) = (51 : Nat) ∧ (5 : Nat) = (5 : Nat) ∧ (5 : Nat) = (5 : Nat) ∧ roomOK ((0 : Nat) + List.length l) (56 : Nat)]) (by kernel_rfl) (by (first | omega | assumption | exact ⟨rfl, trivial⟩ | simp only [AllP, inK_iff, roomOK_iff, decide_eq_true_eq, Bool.and_eq_true, Bool.or_eq_true, Bool.not_eq_true', decide_eq_false_iff_not, and_true, true_and]; (first | omega | (and_intros <;> intros <;> (try and_intros) <;> first | omega | assumption | exact trivial)))) ?_
  refine good_loopJ (fun k : Nat => ⟨[(10, .sv (.int .i64 (k))), (9, LV.sv (SV.int IntKind.i64 (↑((0 : Nat) + List.length l) : Int))), (3, LV.own (0 : Nat))], [.row 51 5 l.length true fun i => Box.cells (List.getD l i default)]⟩) (fun k => k ≤ l.length) (fun k => l.length - k) (0) [(0 : Nat) + List.length l = List.length l ∧ ∀ (i : Nat), i < (0 : Nat) + List.length l → joinGet (0 : Nat) (cutRows (5 : Nat) []) (fun i => Box.cells (List.getD l i default)) i = (fun i => Box.cells (List.getD l i default)) i, (0 : Int) = (0 : Int), (↑((0 : Nat) + List.length l) : Int) = (↑((0 : Nat) + List.length l) : Int)] (by kernel_rfl) (by kernel_rfl) ⟨?_, rfl, rfl, trivial⟩ (by omega) ?_
  · exact ⟨by omega, fun i hi => by simp [joinGet]⟩
  intro k hk
  refine good_run 6 (obs := []) (by kernel_rfl) trivial ?_
  refine good_cond (decide ((↑k : Int) < (↑((0 : Nat) + List.length l) : Int))) (by kernel_rfl) (fun hc1 => ?_) (fun hc1 => ?_)
  · have hlt : k < l.length := by simp at hc1; omega
    have := hl _ (getD_mem l default k hlt)
    refine good_run 30 (obs := [(5 : Nat) = (5 : Nat) ∧ (0 : Int) ≤ (↑k : Int) ∧ (↑k : Int) < (↑(List.length l) : Int), (100 : Nat) = (100 : Nat) ∧ (2 : Nat) = (2 : Nat) ∧ (2 : Nat) = (2 : Nat) ∧ roomOK ((0 : Nat) + List.length (List.getD l k default).Contents) (16 : Nat), (5 : Nat) = (5 : Nat) ∧ (0 : Int) ≤ (↑k : Int) ∧ (↑k : Int) < (↑(List.length l) : Int), (1 : Nat) = (1 : Nat) ∧ (4 : Nat) + (1 : Nat) ≤ (5 : Nat), InK IntKind.i64 ((↑k : Int) + (1 : Int))]) (by kernel_rfl) (by (first | omega | assumption | exact ⟨rfl, trivial⟩ | simp only [AllP, inK_iff, roomOK_iff, decide_eq_true_eq, Bool.and_eq_true, Bool.or_eq_true, Bool.not_eq_true', decide_eq_false_iff_not, and_true, true_and]; (first | omega | (and_intros <;> intros <;> (try and_intros) <;> first | omega | assumption | exact trivial)))) ?_
    refine good_backJ (k + 1) [List.length l = List.length l ∧ ∀ (i : Nat), i < List.length l → (fun j => if j = k then lay ((fun i => Box.cells (List.getD l i default)) k) (4 : Nat) [SV.lst (2 : Nat) ((0 : Nat) + List.length (List.getD l k default).Contents) (joinGet (0 : Nat) (cutRows (2 : Nat) []) fun i => Content.cells (List.getD (List.getD l k default).Contents i default))] else (fun i => Box.cells (List.getD l i default)) j) i = (fun i => Box.cells (List.getD l i default)) i, (↑k : Int) + (1 : Int) = (↑(k + (1 : Nat)) : Int), (↑((0 : Nat) + List.length l) : Int) = (↑((0 : Nat) + List.length l) : Int)] (by kernel_rfl) (by kernel_rfl) ⟨?_, (by omega), rfl, trivial⟩ (by omega) (by show _ < _; omega)
    refine ⟨rfl, fun i hi => ?_⟩
    show (if i = k then _ else _) = _
    split
    · rename_i e; subst e; rw [joinGet_zero]; simp only [Nat.zero_add]; rfl
    · rfl
  · refine good_run 2 (obs := []) (by kernel_rfl) trivial ?_
    refine good_leaveJ (by kernel_rfl) ?_
    refine good_run 8 (obs := []) (by kernel_rfl) trivial ?_
    refine good_finOwn [List.length l = List.length l ∧ ∀ (j : Nat), j < List.length l → (fun i => Box.cells (List.getD l i default)) j = (fun i => Box.cells (List.getD l i default)) j] (by kernel_rfl) ⟨⟨rfl, fun _ _ => rfl⟩, trivial⟩
end Go.Sx.T
