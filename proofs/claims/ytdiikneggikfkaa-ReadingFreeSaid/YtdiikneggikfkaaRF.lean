/- Contracts of functions of the program, each proved by running its code symbolically (RF). -/
import Derived.Test.YtdiikneggikfkaaRE
namespace Go.Sx.T
open Go Go.Proofs Go.Sx
set_option maxRecDepth 100000
set_option maxHeartbeats 4000000
set_option linter.unusedVariables false
set_option linter.unusedSimpArgs false
theorem s54 (r f u : Int) (b : Bk) : Spec Try.prog 54 [b.sv, .ref [.int .i64 r] 0, .ref [.int .i64 f, .int .i64 u] 0] (.bool (decide (b.Rd = r) && meetB b.F b.U f u)) := by
  refine spec_of_good mixed Try.func54 F54_ok (by kernel_rfl) ?_
  refine good_run 17 (obs := [decide (b.Rd = r) = true ∧ True → (2 : Nat) + (2 : Nat) ≤ (4 : Nat), decide (b.Rd = r) = true ∧ True → (2 : Nat) ≤ (2 : Nat)]) (by kernel_rfl) (by (first | omega | assumption | exact ⟨rfl, trivial⟩ | simp only [AllP, inK_iff, roomOK_iff, decide_eq_true_eq, Bool.and_eq_true, Bool.or_eq_true, Bool.not_eq_true', decide_eq_false_iff_not, and_true, true_and]; (first | omega | (and_intros <;> intros <;> (try and_intros) <;> first | omega | assumption | exact trivial)))) ?_
  refine good_call (c := decide (b.Rd = r) = true ∧ True) (by kernel_rfl) (fun _ => SVles.refl _) (fun _ => s41 (b.F) (b.U) (f) (u)) (by kernel_rfl) ?_
  refine good_run 6 (obs := []) (by kernel_rfl) trivial ?_
  refine good_fin [(decide (b.Rd = r) && meetB b.F b.U f u) = (decide (b.Rd = r) && meetB b.F b.U f u)] (by kernel_rfl) ⟨rfl, trivial⟩
theorem s45 (l : List Bk) (r f u : Int) : Spec Try.prog 45 [bks l, .int .i64 r, .agg [.int .i64 f, .int .i64 u]] (.bool (busyL l r f u)) := by
  refine spec_of_good mixed Try.func45 F45_ok (by kernel_rfl) ?_
  refine good_run 11 (obs := []) (by kernel_rfl) trivial ?_
  refine good_call (c := True) (by kernel_rfl) (fun _ => SVles.refl _) (fun _ => s53 l 54 _ (fun b => decide (b.Rd = r) && meetB b.F b.U f u) (fun b => s54 r f u b)) (by kernel_rfl) ?_
  refine good_run 4 (obs := []) (by kernel_rfl) trivial ?_
  refine good_fin [(List.any l fun b => decide (b.Rd = r) && meetB b.F b.U f u) = busyL l r f u] (by kernel_rfl) ⟨(by rfl), trivial⟩
theorem busy_take (l : List Bk) (r f u : Int) (k : Nat) (hk : k < l.length) : busyL (l.take (k + 1)) r f u = (busyL (l.take k) r f u || (decide ((l.getD k default).Rd = r) && meetB (l.getD k default).F (l.getD k default).U f u)) := by
  rw [take_snoc l default k hk]; unfold busyL; simp
def overR (s : Int) (l : List Bk) (f u : Int) (x : Bk) : Bool := decide (f ≤ x.F) && decide (x.F < u) && decide (s < (loadL l x.F : Int) + 1)
theorem s32 (s : Int) (l : List Bk) (b : Bk) (hl : l.length ≤ 100000) : Spec Try.prog 32 [.int .i64 s, bks l, b.sv] (.int .i64 (faultR s l b)) := by
  refine spec_of_good mixed Try.func32 F32_ok (by kernel_rfl) ?_
  have hll : ∀ d, loadL l d ≤ 100000 := fun d => Nat.le_trans (loadL_le l d) hl
  have e1 : ((l.length : Int) - 1).toNat = l.length - 1 := by omega
  refine good_run 31 (obs := [(decide (b.ID < (1 : Int)) || decide ((1073741824 : Int) < b.ID) || decide (b.Rd < (1 : Int)) || decide ((1073741824 : Int) < b.Rd)) = false ∧ True → (2 : Nat) + (2 : Nat) ≤ (4 : Nat)]) (by kernel_rfl) (by (first | omega | assumption | exact ⟨rfl, trivial⟩ | simp only [AllP, inK_iff, roomOK_iff, decide_eq_true_eq, Bool.and_eq_true, Bool.or_eq_true, Bool.not_eq_true', decide_eq_false_iff_not, and_true, true_and]; (first | omega | (and_intros <;> intros <;> (try and_intros) <;> first | omega | assumption | exact trivial)))) ?_
  refine good_call (c := (decide (b.ID < (1 : Int)) || decide ((1073741824 : Int) < b.ID) || decide (b.Rd < (1 : Int)) || decide ((1073741824 : Int) < b.Rd)) = false ∧ True) (by kernel_rfl) (fun _ => SVles.refl _) (fun _ => s30 (b.F) (b.U)) (by kernel_rfl) ?_
  refine good_run 5 (obs := []) (by kernel_rfl) trivial ?_
  refine good_cond (decide (b.ID < (1 : Int)) || decide ((1073741824 : Int) < b.ID) || decide (b.Rd < (1 : Int)) || decide ((1073741824 : Int) < b.Rd) || !okSpan b.F b.U) (by kernel_rfl) (fun hc1 => ?_) (fun hc1 => ?_)
  · have e : (!okId b.ID || !okId b.Rd || !okSpan b.F b.U) = true := by
      simp only [Bool.or_eq_true, decide_eq_true_eq, Bool.not_eq_true', okId, Bool.and_eq_false_iff, decide_eq_false_iff_not] at hc1 ⊢
      rcases hc1 with h | h
      · left; omega
      · exact .inr h
    have : faultR s l b = 2 := by unfold faultR; rw [if_pos e]
    rw [this]
    refine good_run 7 (obs := []) (by kernel_rfl) trivial ?_
    refine good_fin [(2 : Int) = (2 : Int)] (by kernel_rfl) ⟨rfl, trivial⟩
  · have e : ¬ (!okId b.ID || !okId b.Rd || !okSpan b.F b.U) = true := by
      simp only [Bool.or_eq_true, Bool.or_eq_false_iff, decide_eq_false_iff_not, Bool.not_eq_true', Bool.not_eq_false', okId, Bool.and_eq_false_iff] at hc1 ⊢
      rw [hc1.2]
      simp only [Bool.true_eq_false, or_false]
      omega
    refine good_run 21 (obs := [decide ((0 : Int) < (↑(List.length l) : Int)) = true ∧ True → InK IntKind.i64 ((↑(List.length l) : Int) - (1 : Int)), decide ((0 : Int) < (↑(List.length l) : Int)) = true ∧ True → (4 : Nat) = (4 : Nat) ∧ (0 : Int) ≤ (↑(List.length l) : Int) - (1 : Int) ∧ (↑(List.length l) : Int) - (1 : Int) < (↑(List.length l) : Int)]) (by kernel_rfl) (by (first | omega | assumption | exact ⟨rfl, trivial⟩ | simp only [AllP, inK_iff, roomOK_iff, decide_eq_true_eq, Bool.and_eq_true, Bool.or_eq_true, Bool.not_eq_true', decide_eq_false_iff_not, and_true, true_and]; (first | omega | (and_intros <;> intros <;> (try and_intros) <;> first | omega | assumption | exact trivial)))) ?_
    refine good_cond (decide ((0 : Int) < (↑(List.length l) : Int)) && decide (b.ID ≤ (List.getD l (Int.toNat ((↑(List.length l) : Int) - (1 : Int))) default).ID)) (by kernel_rfl) (fun hc2 => ?_) (fun hc2 => ?_)
    · have e2 : (decide (0 < (l.length : Int)) && decide (b.ID ≤ (lastB l).ID)) = true := by
        rw [e1] at hc2; exact hc2
      have : faultR s l b = 5 := by unfold faultR; rw [if_neg e, if_pos e2]
      rw [this]
      refine good_run 7 (obs := []) (by kernel_rfl) trivial ?_
      refine good_fin [(5 : Int) = (5 : Int)] (by kernel_rfl) ⟨rfl, trivial⟩
    · have e2 : ¬ (decide (0 < (l.length : Int)) && decide (b.ID ≤ (lastB l).ID)) = true := by
        rw [e1] at hc2; intro h; rw [show (decide (0 < (l.length : Int)) && decide (b.ID ≤ (l.getD (l.length - 1) default).ID)) = true from h] at hc2; cases hc2
      refine good_run 10 (obs := []) (by kernel_rfl) trivial ?_
      refine good_loopJ (fun k : Nat => ⟨[(52, .sv (.int .i64 (k))), (51, LV.sv (SV.int IntKind.i64 (↑(List.length l) : Int))), (50, LV.sv (SV.lst (4 : Nat) (List.length l) fun i => Bk.cells (List.getD l i default))), (5, LV.ptr (0 : Nat) (0 : Nat)), (0, LV.sv (SV.int IntKind.i64 s)), (1, LV.sv (SV.lst (4 : Nat) (List.length l) fun i => Bk.cells (List.getD l i default)))], [Blk.cells (31 : Nat) true [SV.int IntKind.i64 b.ID, SV.int IntKind.i64 b.Rd, SV.int IntKind.i64 b.F, SV.int IntKind.i64 b.U]]⟩) (fun k => k ≤ l.length ∧ busyL (l.take k) b.Rd b.F b.U = false) (fun k => l.length - k) (0) [b.ID = b.ID, b.Rd = b.Rd, b.F = b.F, b.U = b.U, (0 : Int) = (0 : Int), (↑(List.length l) : Int) = (↑(List.length l) : Int), List.length l = List.length l ∧ ∀ (i : Nat), i < List.length l → (fun i => Bk.cells (List.getD l i default)) i = (fun i => Bk.cells (List.getD l i default)) i, s = s, List.length l = List.length l ∧ ∀ (i : Nat), i < List.length l → (fun i => Bk.cells (List.getD l i default)) i = (fun i => Bk.cells (List.getD l i default)) i] (by kernel_rfl) (by kernel_rfl) ⟨rfl, rfl, rfl, rfl, rfl, rfl, ⟨rfl, fun _ _ => rfl⟩, rfl, ⟨rfl, fun _ _ => rfl⟩, trivial⟩ ⟨by omega, rfl⟩ ?_
      intro k hk
      refine good_run 6 (obs := []) (by kernel_rfl) trivial ?_
      refine good_cond (decide ((↑k : Int) < (↑(List.length l) : Int))) (by kernel_rfl) (fun hc3 => ?_) (fun hc3 => ?_)
      · have hlt : k < l.length := by simp only [decide_eq_true_eq] at hc3; omega
        have hbt := busy_take l b.Rd b.F b.U k hlt
        rw [hk.2, Bool.false_or] at hbt
        refine good_run 24 (obs := [(4 : Nat) = (4 : Nat) ∧ (0 : Int) ≤ (↑k : Int) ∧ (↑k : Int) < (↑(List.length l) : Int), (0 : Nat) + (4 : Nat) ≤ (4 : Nat), (4 : Nat) = (4 : Nat) ∧ (0 : Nat) + (4 : Nat) ≤ (4 : Nat), decide ((List.getD l k default).Rd = b.Rd) = true ∧ True → (2 : Nat) + (2 : Nat) ≤ (4 : Nat), decide ((List.getD l k default).Rd = b.Rd) = true ∧ True → (2 : Nat) + (2 : Nat) ≤ (4 : Nat)]) (by kernel_rfl) (by (first | omega | assumption | exact ⟨rfl, trivial⟩ | simp only [AllP, inK_iff, roomOK_iff, decide_eq_true_eq, Bool.and_eq_true, Bool.or_eq_true, Bool.not_eq_true', decide_eq_false_iff_not, and_true, true_and]; (first | omega | (and_intros <;> intros <;> (try and_intros) <;> first | omega | assumption | exact trivial)))) ?_
        refine good_call (c := decide ((List.getD l k default).Rd = b.Rd) = true ∧ True) (by kernel_rfl) (fun _ => SVles.refl _) (fun _ => s48 ((List.getD l k default).F) ((List.getD l k default).U) (b.F) (b.U)) (by kernel_rfl) ?_
        refine good_run 4 (obs := []) (by kernel_rfl) trivial ?_
        refine good_cond (decide ((List.getD l k default).Rd = b.Rd) && meetB (List.getD l k default).F (List.getD l k default).U b.F b.U) (by kernel_rfl) (fun hc4 => ?_) (fun hc4 => ?_)
        · have h4 : busyL l b.Rd b.F b.U = true := by
            rw [hc4] at hbt
            obtain ⟨x, hx, h⟩ := busyL_iff.1 hbt
            exact busyL_iff.2 ⟨x, List.mem_of_mem_take hx, h⟩
          have : faultR s l b = 6 := by unfold faultR; rw [if_neg e, if_neg e2, if_pos h4]
          rw [this]
          refine good_run 8 (obs := []) (by kernel_rfl) trivial ?_
          refine good_leaveJ (by kernel_rfl) ?_
          refine good_run 2 (obs := []) (by kernel_rfl) trivial ?_
          refine good_fin [(6 : Int) = (6 : Int)] (by kernel_rfl) ⟨rfl, trivial⟩
        · refine good_run 7 (obs := [InK IntKind.i64 ((↑k : Int) + (1 : Int))]) (by kernel_rfl) (by (first | omega | assumption | exact ⟨rfl, trivial⟩ | simp only [AllP, inK_iff, roomOK_iff, decide_eq_true_eq, Bool.and_eq_true, Bool.or_eq_true, Bool.not_eq_true', decide_eq_false_iff_not, and_true, true_and]; (first | omega | (and_intros <;> intros <;> (try and_intros) <;> first | omega | assumption | exact trivial)))) ?_
          refine good_backJ (k + 1) [b.ID = b.ID, b.Rd = b.Rd, b.F = b.F, b.U = b.U, (↑k : Int) + (1 : Int) = (↑(k + (1 : Nat)) : Int), (↑(List.length l) : Int) = (↑(List.length l) : Int), List.length l = List.length l ∧ ∀ (i : Nat), i < List.length l → (fun i => Bk.cells (List.getD l i default)) i = (fun i => Bk.cells (List.getD l i default)) i, s = s, List.length l = List.length l ∧ ∀ (i : Nat), i < List.length l → (fun i => Bk.cells (List.getD l i default)) i = (fun i => Bk.cells (List.getD l i default)) i] (by kernel_rfl) (by kernel_rfl) ⟨rfl, rfl, rfl, rfl, (by omega), rfl, ⟨rfl, fun _ _ => rfl⟩, rfl, ⟨rfl, fun _ _ => rfl⟩, trivial⟩ ?_ (by show _ < _; omega)
          exact ⟨hlt, by rw [hbt]; exact hc4⟩
      · have : k = l.length := by simp only [decide_eq_false_iff_not] at hc3; omega
        subst this
        have hb : busyL l b.Rd b.F b.U = false := by have := hk.2; rwa [List.take_length] at this
        have hR : faultR s l b = if fullR l b.F b.U s = true then 12 else 0 := by unfold faultR; rw [if_neg e, if_neg e2, if_neg (by rw [hb]; decide)]
        have := hll b.F
        refine good_run 2 (obs := []) (by kernel_rfl) trivial ?_
        refine good_leaveJ (by kernel_rfl) ?_
        refine good_run 8 (obs := []) (by kernel_rfl) trivial ?_
        refine good_call (c := True) (by kernel_rfl) (fun _ => SVles.refl _) (fun _ => s17 (l) (b.F)) (by kernel_rfl) ?_
        refine good_run 5 (obs := [InK IntKind.i64 ((↑(loadL l b.F) : Int) + (1 : Int))]) (by kernel_rfl) (by (first | omega | assumption | exact ⟨rfl, trivial⟩ | simp only [AllP, inK_iff, roomOK_iff, decide_eq_true_eq, Bool.and_eq_true, Bool.or_eq_true, Bool.not_eq_true', decide_eq_false_iff_not, and_true, true_and]; (first | omega | (and_intros <;> intros <;> (try and_intros) <;> first | omega | assumption | exact trivial)))) ?_
        refine good_cond (decide (s < (↑(loadL l b.F) : Int) + (1 : Int))) (by kernel_rfl) (fun hc4 => ?_) (fun hc4 => ?_)
        · have h5 : fullR l b.F b.U s = true := by unfold fullR; rw [hc4]; rfl
          rw [if_pos h5] at hR
          rw [hR]
          refine good_run 7 (obs := []) (by kernel_rfl) trivial ?_
          refine good_fin [(12 : Int) = (12 : Int)] (by kernel_rfl) ⟨rfl, trivial⟩
        · refine good_run 10 (obs := []) (by kernel_rfl) trivial ?_
          refine good_loopJ (fun k : Nat => ⟨[(79, .sv (.int .i64 (k))), (78, LV.sv (SV.int IntKind.i64 (↑(List.length l) : Int))), (77, LV.sv (SV.lst (4 : Nat) (List.length l) fun i => Bk.cells (List.getD l i default))), (5, LV.ptr (0 : Nat) (0 : Nat)), (0, LV.sv (SV.int IntKind.i64 s)), (1, LV.sv (SV.lst (4 : Nat) (List.length l) fun i => Bk.cells (List.getD l i default)))], [Blk.cells (31 : Nat) true [SV.int IntKind.i64 b.ID, SV.int IntKind.i64 b.Rd, SV.int IntKind.i64 b.F, SV.int IntKind.i64 b.U]]⟩) (fun k => k ≤ l.length ∧ (l.take k).any (overR s l b.F b.U) = false) (fun k => l.length - k) (0) [b.ID = b.ID, b.Rd = b.Rd, b.F = b.F, b.U = b.U, (0 : Int) = (0 : Int), (↑(List.length l) : Int) = (↑(List.length l) : Int), List.length l = List.length l ∧ ∀ (i : Nat), i < List.length l → (fun i => Bk.cells (List.getD l i default)) i = (fun i => Bk.cells (List.getD l i default)) i, s = s, List.length l = List.length l ∧ ∀ (i : Nat), i < List.length l → (fun i => Bk.cells (List.getD l i default)) i = (fun i => Bk.cells (List.getD l i default)) i] (by kernel_rfl) (by kernel_rfl) ⟨rfl, rfl, rfl, rfl, rfl, rfl, ⟨rfl, fun _ _ => rfl⟩, rfl, ⟨rfl, fun _ _ => rfl⟩, trivial⟩ ⟨by omega, rfl⟩ ?_
          intro k hk
          refine good_run 6 (obs := []) (by kernel_rfl) trivial ?_
          refine good_cond (decide ((↑k : Int) < (↑(List.length l) : Int))) (by kernel_rfl) (fun hc5 => ?_) (fun hc5 => ?_)
          · have hlt : k < l.length := by simp only [decide_eq_true_eq] at hc5; omega
            have hat : (l.take (k + 1)).any (overR s l b.F b.U) = overR s l b.F b.U (l.getD k default) := by
              rw [take_snoc l default k hlt, List.any_append, hk.2]; simp
            have := hll (l.getD k default).F
            refine good_run 35 (obs := [(4 : Nat) = (4 : Nat) ∧ (0 : Int) ≤ (↑k : Int) ∧ (↑k : Int) < (↑(List.length l) : Int), (0 : Nat) + (4 : Nat) ≤ (4 : Nat), (4 : Nat) = (4 : Nat) ∧ (0 : Nat) + (4 : Nat) ≤ (4 : Nat)]) (by kernel_rfl) (by (first | omega | assumption | exact ⟨rfl, trivial⟩ | simp only [AllP, inK_iff, roomOK_iff, decide_eq_true_eq, Bool.and_eq_true, Bool.or_eq_true, Bool.not_eq_true', decide_eq_false_iff_not, and_true, true_and]; (first | omega | (and_intros <;> intros <;> (try and_intros) <;> first | omega | assumption | exact trivial)))) ?_
            refine good_call (c := (decide (b.F ≤ (List.getD l k default).F) && decide ((List.getD l k default).F < b.U)) = true ∧ True) (by kernel_rfl) (fun _ => SVles.refl _) (fun _ => s17 (l) ((List.getD l k default).F)) (by kernel_rfl) ?_
            refine good_run 7 (obs := [(decide (b.F ≤ (List.getD l k default).F) && decide ((List.getD l k default).F < b.U)) = true ∧ True → InK IntKind.i64 ((↑(loadL l (List.getD l k default).F) : Int) + (1 : Int))]) (by kernel_rfl) (by (first | omega | assumption | exact ⟨rfl, trivial⟩ | simp only [AllP, inK_iff, roomOK_iff, decide_eq_true_eq, Bool.and_eq_true, Bool.or_eq_true, Bool.not_eq_true', decide_eq_false_iff_not, and_true, true_and]; (first | omega | (and_intros <;> intros <;> (try and_intros) <;> first | omega | assumption | exact trivial)))) ?_
            refine good_cond (decide (b.F ≤ (List.getD l k default).F) && decide ((List.getD l k default).F < b.U) && decide (s < (↑(loadL l (List.getD l k default).F) : Int) + (1 : Int))) (by kernel_rfl) (fun hc6 => ?_) (fun hc6 => ?_)
            · have h6 : fullR l b.F b.U s = true := by
                unfold fullR
                rw [Bool.or_eq_true]
                exact .inr (List.any_eq_true.2 ⟨_, getD_mem' l k hlt, hc6⟩)
              rw [if_pos h6] at hR
              rw [hR]
              refine good_run 8 (obs := []) (by kernel_rfl) trivial ?_
              refine good_leaveJ (by kernel_rfl) ?_
              refine good_run 2 (obs := []) (by kernel_rfl) trivial ?_
              refine good_fin [(12 : Int) = (12 : Int)] (by kernel_rfl) ⟨rfl, trivial⟩
            · refine good_run 7 (obs := [InK IntKind.i64 ((↑k : Int) + (1 : Int))]) (by kernel_rfl) (by (first | omega | assumption | exact ⟨rfl, trivial⟩ | simp only [AllP, inK_iff, roomOK_iff, decide_eq_true_eq, Bool.and_eq_true, Bool.or_eq_true, Bool.not_eq_true', decide_eq_false_iff_not, and_true, true_and]; (first | omega | (and_intros <;> intros <;> (try and_intros) <;> first | omega | assumption | exact trivial)))) ?_
              refine good_backJ (k + 1) [b.ID = b.ID, b.Rd = b.Rd, b.F = b.F, b.U = b.U, (↑k : Int) + (1 : Int) = (↑(k + (1 : Nat)) : Int), (↑(List.length l) : Int) = (↑(List.length l) : Int), List.length l = List.length l ∧ ∀ (i : Nat), i < List.length l → (fun i => Bk.cells (List.getD l i default)) i = (fun i => Bk.cells (List.getD l i default)) i, s = s, List.length l = List.length l ∧ ∀ (i : Nat), i < List.length l → (fun i => Bk.cells (List.getD l i default)) i = (fun i => Bk.cells (List.getD l i default)) i] (by kernel_rfl) (by kernel_rfl) ⟨rfl, rfl, rfl, rfl, (by omega), rfl, ⟨rfl, fun _ _ => rfl⟩, rfl, ⟨rfl, fun _ _ => rfl⟩, trivial⟩ ?_ (by show _ < _; omega)
              exact ⟨hlt, by rw [hat]; exact hc6⟩
          · have : k = l.length := by simp only [decide_eq_false_iff_not] at hc5; omega
            subst this
            have h6 : fullR l b.F b.U s = false := by
              unfold fullR
              rw [hc4, Bool.false_or]
              have := hk.2; rwa [List.take_length] at this
            rw [if_neg (by rw [h6]; decide)] at hR
            rw [hR]
            refine good_run 2 (obs := []) (by kernel_rfl) trivial ?_
            refine good_leaveJ (by kernel_rfl) ?_
            refine good_run 7 (obs := []) (by kernel_rfl) trivial ?_
            refine good_fin [(0 : Int) = (0 : Int)] (by kernel_rfl) ⟨rfl, trivial⟩
theorem take_bks (l : List Bk) (k : Nat) (hk : k ≤ l.length) : SVle (.lst 4 (k - 0) fun i => (fun i => (l.getD i default).cells) (Int.toNat 0 + i)) (bks (l.take k)) := by
  unfold bks
  refine svle_lst (by rw [List.length_take]; omega) fun i hi => SVles.of_eq ?_
  show (l.getD (Int.toNat 0 + i) default).cells = ((l.take k).getD i default).cells
  rw [getD_take _ _ _ (by omega), show Int.toNat 0 + i = i by simp]
theorem s15 (s : Int) (l : List Bk) : Spec Try.prog 15 [.int .i64 s, bks l] (.int .i64 (checkL s l)) := by
  refine spec_len 1 rfl (hasBody_of_slim Try.func15 F15_ok) fun hlen => ?_
  refine spec_of_good mixed Try.func15 F15_ok (by kernel_rfl) ?_
  refine good_run 16 (obs := []) (by kernel_rfl) trivial ?_
  refine good_cond (decide (s < (1 : Int)) || decide ((32 : Int) < s)) (by kernel_rfl) (fun hc1 => ?_) (fun hc1 => ?_)
  · have : checkL s l = 1 := by
      unfold checkL okSeats
      rw [if_pos]
      simp only [Bool.or_eq_true, decide_eq_true_eq, Bool.not_eq_true', Bool.and_eq_false_iff, decide_eq_false_iff_not] at hc1 ⊢
      omega
    rw [this]
    refine good_run 7 (obs := []) (by kernel_rfl) trivial ?_
    refine good_fin [(1 : Int) = (1 : Int)] (by kernel_rfl) ⟨rfl, trivial⟩
  · have h1 : ¬ (!okSeats s) = true := by
      unfold okSeats
      simp only [Bool.or_eq_false_iff, decide_eq_false_iff_not, Bool.not_eq_true', Bool.and_eq_false_iff] at hc1 ⊢
      omega
    refine good_run 9 (obs := []) (by kernel_rfl) trivial ?_
    refine good_cond (decide ((1024 : Int) < (↑(List.length l) : Int))) (by kernel_rfl) (fun hc2 => ?_) (fun hc2 => ?_)
    · have : checkL s l = 8 := by unfold checkL; rw [if_neg h1, if_pos (by simpa using hc2)]
      rw [this]
      refine good_run 7 (obs := []) (by kernel_rfl) trivial ?_
      refine good_fin [(8 : Int) = (8 : Int)] (by kernel_rfl) ⟨rfl, trivial⟩
    · have hll : l.length ≤ 1024 := by simp only [decide_eq_false_iff_not] at hc2; omega
      have hR : checkL s l = errFrom (errB s l) l.length 0 := by unfold checkL; rw [if_neg h1, if_neg (by omega)]
      refine good_run 10 (obs := []) (by kernel_rfl) trivial ?_
      refine good_loopJ (fun k : Nat => ⟨[(19, .sv (.int .i64 (k))), (18, LV.sv (SV.int IntKind.i64 (↑(List.length l) : Int))), (17, LV.sv (SV.lst (4 : Nat) (List.length l) fun i => Bk.cells (List.getD l i default))), (0, LV.sv (SV.int IntKind.i64 s)), (1, LV.sv (SV.lst (4 : Nat) (List.length l) fun i => Bk.cells (List.getD l i default)))], []⟩) (fun k => k ≤ l.length ∧ checkL s l = errFrom (errB s l) (l.length - k) k) (fun k => l.length - k) (0) [(0 : Int) = (0 : Int), (↑(List.length l) : Int) = (↑(List.length l) : Int), List.length l = List.length l ∧ ∀ (i : Nat), i < List.length l → (fun i => Bk.cells (List.getD l i default)) i = (fun i => Bk.cells (List.getD l i default)) i, s = s, List.length l = List.length l ∧ ∀ (i : Nat), i < List.length l → (fun i => Bk.cells (List.getD l i default)) i = (fun i => Bk.cells (List.getD l i default)) i] (by kernel_rfl) (by kernel_rfl) ⟨rfl, rfl, ⟨rfl, fun _ _ => rfl⟩, rfl, ⟨rfl, fun _ _ => rfl⟩, trivial⟩ ⟨by omega, by omega⟩ ?_
      intro k hk
      refine good_run 6 (obs := []) (by kernel_rfl) trivial ?_
      refine good_cond (decide ((↑k : Int) < (↑(List.length l) : Int))) (by kernel_rfl) (fun hc3 => ?_) (fun hc3 => ?_)
      · have hlt : k < l.length := by simp only [decide_eq_true_eq] at hc3; omega
        have hst := errFrom_step (errB s l) l.length k hlt
        have htl : (l.take k).length = k := by rw [List.length_take]; omega
        have hf : errB s l k = faultR s (l.take k) (l.getD k default) := fault_eq _ _ _
        have s32' := s32 s (l.take k) (l.getD k default) (by omega)
        refine good_run 20 (obs := [(4 : Nat) = (4 : Nat) ∧ (0 : Int) ≤ (↑k : Int) ∧ (↑k : Int) < (↑(List.length l) : Int), (0 : Nat) + (4 : Nat) ≤ (4 : Nat), (4 : Nat) = (4 : Nat) ∧ (0 : Nat) + (4 : Nat) ≤ (4 : Nat), True → (4 : Nat) = (4 : Nat) ∧ (0 : Int) ≤ (0 : Int) ∧ (0 : Int) ≤ (↑k : Int) ∧ (↑k : Int) ≤ (↑(List.length l) : Int), True → (0 : Nat) + (4 : Nat) ≤ (4 : Nat)]) (by kernel_rfl) (by (first | omega | assumption | exact ⟨rfl, trivial⟩ | simp only [AllP, inK_iff, roomOK_iff, decide_eq_true_eq, Bool.and_eq_true, Bool.or_eq_true, Bool.not_eq_true', decide_eq_false_iff_not, and_true, true_and]; (first | omega | (and_intros <;> intros <;> (try and_intros) <;> first | omega | assumption | exact trivial)))) ?_
        refine good_call (args := [SV.int IntKind.i64 s, SV.lst (4 : Nat) (k - (0 : Nat)) fun i => (fun i => Bk.cells (List.getD l i default)) (Int.toNat (0 : Int) + i), SV.agg [SV.int IntKind.i64 (List.getD l k default).ID, SV.int IntKind.i64 (List.getD l k default).Rd, SV.int IntKind.i64 (List.getD l k default).F, SV.int IntKind.i64 (List.getD l k default).U]]) (c := True) (by kernel_rfl) (fun _ => show SVles _ [.int .i64 s, bks (l.take k), (l.getD k default).sv] from ⟨SVle.refl _, take_bks l k hk.1, SVle.refl _, trivial⟩) (fun _ => s32') (by kernel_rfl) ?_
        refine good_run 9 (obs := []) (by kernel_rfl) trivial ?_
        refine good_cond (!decide (faultR s (List.take k l) (List.getD l k default) = (0 : Int))) (by kernel_rfl) (fun hc4 => ?_) (fun hc4 => ?_)
        · have : errB s l k ≠ 0 := by rw [hf]; simpa using hc4
          rw [if_pos this] at hst
          rw [hk.2, hst, hf]
          refine good_run 9 (obs := []) (by kernel_rfl) trivial ?_
          refine good_leaveJ (by kernel_rfl) ?_
          refine good_run 2 (obs := []) (by kernel_rfl) trivial ?_
          refine good_fin [faultR s (List.take k l) (List.getD l k default) = faultR s (List.take k l) (List.getD l k default)] (by kernel_rfl) ⟨rfl, trivial⟩
        · have : ¬ errB s l k ≠ 0 := by rw [hf]; simpa using hc4
          rw [if_neg this] at hst
          refine good_run 7 (obs := [InK IntKind.i64 ((↑k : Int) + (1 : Int))]) (by kernel_rfl) (by (first | omega | assumption | exact ⟨rfl, trivial⟩ | simp only [AllP, inK_iff, roomOK_iff, decide_eq_true_eq, Bool.and_eq_true, Bool.or_eq_true, Bool.not_eq_true', decide_eq_false_iff_not, and_true, true_and]; (first | omega | (and_intros <;> intros <;> (try and_intros) <;> first | omega | assumption | exact trivial)))) ?_
          refine good_backJ (k + 1) [(↑k : Int) + (1 : Int) = (↑(k + (1 : Nat)) : Int), (↑(List.length l) : Int) = (↑(List.length l) : Int), List.length l = List.length l ∧ ∀ (i : Nat), i < List.length l → (fun i => Bk.cells (List.getD l i default)) i = (fun i => Bk.cells (List.getD l i default)) i, s = s, List.length l = List.length l ∧ ∀ (i : Nat), i < List.length l → (fun i => Bk.cells (List.getD l i default)) i = (fun i => Bk.cells (List.getD l i default)) i] (by kernel_rfl) (by kernel_rfl) ⟨(by omega), rfl, ⟨rfl, fun _ _ => rfl⟩, rfl, ⟨rfl, fun _ _ => rfl⟩, trivial⟩ (by omega) (by show _ < _; omega)
      · have : k = l.length := by simp only [decide_eq_false_iff_not] at hc3; omega
        subst this
        rw [hk.2, errFrom_end]
        refine good_run 2 (obs := []) (by kernel_rfl) trivial ?_
        refine good_leaveJ (by kernel_rfl) ?_
        refine good_run 7 (obs := []) (by kernel_rfl) trivial ?_
        refine good_fin [(0 : Int) = (0 : Int)] (by kernel_rfl) ⟨rfl, trivial⟩
end Go.Sx.T
