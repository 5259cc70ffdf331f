/- Contracts of functions of the program, each proved by running its code symbolically (RJ). -/
import Derived.Test.YtdiikneggikfkaaRH
namespace Go.Sx.T
open Go Go.Proofs Go.Sx
set_option maxRecDepth 100000
set_option maxHeartbeats 4000000
set_option linter.unusedVariables false
set_option linter.unusedSimpArgs false
theorem s35 (id : Int) (b : Bk) : Spec Try.prog 35 [b.sv, .ref [.int .i64 id] 0] (.bool (idIs id b)) := by
  refine spec_of_good mixed Try.func35 F35_ok (by kernel_rfl) ?_
  refine good_run 16 (obs := []) (by kernel_rfl) trivial ?_
  refine good_fin [decide (b.ID = id) = idIs id b] (by kernel_rfl) ⟨(by rfl), trivial⟩
theorem s20 (s : Int) (l : List Bk) (id day : Int) : Spec Try.prog 20 [.int .i64 s, bks l, .int .i64 id, .int .i64 day] (.tup [bks (cancelL s l id day).1, .int .i64 (cancelL s l id day).2]) := by
  refine spec_of_good mixed Try.func20 F20_ok (by kernel_rfl) ?_
  refine good_run 12 (obs := []) (by kernel_rfl) trivial ?_
  refine good_call (c := True) (by kernel_rfl) (fun _ => SVles.refl _) (fun _ => s14 (s) (l)) (by kernel_rfl) ?_
  refine good_run 3 (obs := []) (by kernel_rfl) trivial ?_
  refine good_cond (!decide (checkL s l = (0 : Int))) (by kernel_rfl) (fun hc1 => ?_) (fun hc1 => ?_)
  · have h : checkL s l ≠ 0 := by simpa using hc1
    have e : cancelL s l id day = ([], 1) := by unfold cancelL; rw [if_pos h]
    rw [e]
    refine good_run 8 (obs := []) (by kernel_rfl) trivial ?_
    refine good_fin [(0 : Nat) = (0 : Nat), (1 : Int) = (1 : Int)] (by kernel_rfl) ⟨rfl, rfl, trivial⟩
  · have h : checkL s l = 0 := by simpa using hc1
    have hr := (right_iff.1 h).len
    refine good_run 5 (obs := []) (by kernel_rfl) trivial ?_
    refine good_call (c := True) (by kernel_rfl) (fun _ => SVles.refl _) (fun _ => s34 l 35 _ (idIs id) (fun b => s35 id b)) (by kernel_rfl) ?_
    have e0 : cancelL s l id day = if findI l (idIs id) < 0 then ([], 7) else if (decide (day < 0) || decide (1048575 < day)) = true then ([], 2)
      else if (l.getD (findI l (idIs id)).toNat default).U ≤ day then ([], 11) else (cutL l (findI l (idIs id)).toNat day, 0) := by unfold cancelL; rw [if_neg (by simp [h])]
    have hf : findI l (idIs id) = -1 ∨ ∃ k : Nat, k < l.length ∧ findI l (idIs id) = k := by
      rcases findI_cases l (idIs id) with ⟨e, _⟩ | ⟨k, hk, e, _⟩
      · exact .inl e
      · exact .inr ⟨k, hk, e⟩
    generalize findI l (idIs id) = fi at e0 hf
    refine good_run 12 (obs := []) (by kernel_rfl) trivial ?_
    refine good_cond (decide (fi < (0 : Int))) (by kernel_rfl) (fun hc2 => ?_) (fun hc2 => ?_)
    · rw [if_pos (by simpa using hc2)] at e0
      rw [e0]
      refine good_run 9 (obs := []) (by kernel_rfl) trivial ?_
      refine good_fin [(0 : Nat) = (0 : Nat), (7 : Int) = (7 : Int)] (by kernel_rfl) ⟨rfl, rfl, trivial⟩
    · have h2 : ¬ fi < 0 := by simpa using hc2
      obtain ⟨k, hk, rfl⟩ : ∃ k : Nat, k < l.length ∧ fi = k := by
        rcases hf with h | h
        · omega
        · exact h
      rw [if_neg h2] at e0
      simp only [Int.toNat_natCast] at e0
      refine good_run 11 (obs := []) (by kernel_rfl) trivial ?_
      refine good_cond (decide (day < (0 : Int)) || decide ((1048575 : Int) < day)) (by kernel_rfl) (fun hc3 => ?_) (fun hc3 => ?_)
      · rw [if_pos hc3] at e0
        rw [e0]
        refine good_run 9 (obs := []) (by kernel_rfl) trivial ?_
        refine good_fin [(0 : Nat) = (0 : Nat), (2 : Int) = (2 : Int)] (by kernel_rfl) ⟨rfl, rfl, trivial⟩
      · rw [if_neg (by rw [hc3]; decide)] at e0
        refine good_run 13 (obs := [(4 : Nat) = (4 : Nat) ∧ (0 : Int) ≤ (↑k : Int) ∧ (↑k : Int) < (↑(List.length l) : Int)]) (by kernel_rfl) (by (first | omega | assumption | exact ⟨rfl, trivial⟩ | simp only [AllP, inK_iff, roomOK_iff, decide_eq_true_eq, Bool.and_eq_true, Bool.or_eq_true, Bool.not_eq_true', decide_eq_false_iff_not, and_true, true_and]; (first | omega | (and_intros <;> intros <;> (try and_intros) <;> first | omega | assumption | exact trivial)))) ?_
        refine good_cond (decide ((List.getD l k default).U ≤ day)) (by kernel_rfl) (fun hc4 => ?_) (fun hc4 => ?_)
        · rw [if_pos (by simpa using hc4)] at e0
          rw [e0]
          refine good_run 9 (obs := []) (by kernel_rfl) trivial ?_
          refine good_fin [(0 : Nat) = (0 : Nat), (11 : Int) = (11 : Int)] (by kernel_rfl) ⟨rfl, rfl, trivial⟩
        · rw [if_neg (by simpa using hc4)] at e0
          rw [e0]
          refine good_run 5 (obs := []) (by kernel_rfl) trivial ?_
          refine good_own (c := True) (by kernel_rfl) (by kernel_rfl) (SVles.refl _) (s12 (List.length l) (fun i => Bk.cells (List.getD l i default)) (by (first | omega | assumption | exact ⟨rfl, trivial⟩ | simp only [AllP, inK_iff, roomOK_iff, decide_eq_true_eq, Bool.and_eq_true, Bool.or_eq_true, Bool.not_eq_true', decide_eq_false_iff_not, and_true, true_and]; (first | omega | (and_intros <;> intros <;> (try and_intros) <;> first | omega | assumption | exact trivial))))) ?_
          refine good_run 16 (obs := [(4 : Nat) = (4 : Nat) ∧ (0 : Int) ≤ (↑k : Int) ∧ (↑k : Int) < (↑(List.length l) : Int)]) (by kernel_rfl) (by (first | omega | assumption | exact ⟨rfl, trivial⟩ | simp only [AllP, inK_iff, roomOK_iff, decide_eq_true_eq, Bool.and_eq_true, Bool.or_eq_true, Bool.not_eq_true', decide_eq_false_iff_not, and_true, true_and]; (first | omega | (and_intros <;> intros <;> (try and_intros) <;> first | omega | assumption | exact trivial)))) ?_
          refine good_cond (decide (day ≤ (List.getD l k default).F)) (by kernel_rfl) (fun hc5 => ?_) (fun hc5 => ?_)
          · have h5 : day ≤ (l.getD k default).F := by simpa using hc5
            have ec : cutL l k day = l.eraseIdx k := by unfold cutL; rw [if_pos h5]
            rw [ec]
            refine good_run 6 (obs := [InK IntKind.i64 ((↑k : Int) + (1 : Int))]) (by kernel_rfl) (by (first | omega | assumption | exact ⟨rfl, trivial⟩ | simp only [AllP, inK_iff, roomOK_iff, decide_eq_true_eq, Bool.and_eq_true, Bool.or_eq_true, Bool.not_eq_true', decide_eq_false_iff_not, and_true, true_and]; (first | omega | (and_intros <;> intros <;> (try and_intros) <;> first | omega | assumption | exact trivial)))) ?_
            refine good_take (by kernel_rfl) (SVles.refl _) (SVles.refl _) (s36 (List.length l) (fun i => Bk.cells (List.getD l i default)) ((↑k : Int)) ((↑k : Int) + (1 : Int)) (by (first | omega | assumption | exact ⟨rfl, trivial⟩ | simp only [AllP, inK_iff, roomOK_iff, decide_eq_true_eq, Bool.and_eq_true, Bool.or_eq_true, Bool.not_eq_true', decide_eq_false_iff_not, and_true, true_and]; (first | omega | (and_intros <;> intros <;> (try and_intros) <;> first | omega | assumption | exact trivial)))) (by (first | omega | assumption | exact ⟨rfl, trivial⟩ | simp only [AllP, inK_iff, roomOK_iff, decide_eq_true_eq, Bool.and_eq_true, Bool.or_eq_true, Bool.not_eq_true', decide_eq_false_iff_not, and_true, true_and]; (first | omega | (and_intros <;> intros <;> (try and_intros) <;> first | omega | assumption | exact trivial)))) (by (first | omega | assumption | exact ⟨rfl, trivial⟩ | simp only [AllP, inK_iff, roomOK_iff, decide_eq_true_eq, Bool.and_eq_true, Bool.or_eq_true, Bool.not_eq_true', decide_eq_false_iff_not, and_true, true_and]; (first | omega | (and_intros <;> intros <;> (try and_intros) <;> first | omega | assumption | exact trivial))))) ?_
            refine good_run 6 (obs := []) (by kernel_rfl) trivial ?_
            refine good_fin [List.length l - (Int.toNat ((↑k : Int) + (1 : Int)) - k) = List.length (List.eraseIdx l k, (0 : Int)).fst ∧ ∀ (i : Nat), i < List.length l - (Int.toNat ((↑k : Int) + (1 : Int)) - k) → (fun k_1 => if k_1 < k then Bk.cells (List.getD l k_1 default) else Bk.cells (List.getD l (k_1 + (Int.toNat ((↑k : Int) + (1 : Int)) - k)) default)) i = (fun i => Bk.cells (List.getD (List.eraseIdx l k, (0 : Int)).fst i default)) i, (0 : Int) = (0 : Int)] (by kernel_rfl) ⟨?_, rfl, trivial⟩
            refine ⟨by rw [List.length_eraseIdx, if_pos hk]; omega, fun j hj => ?_⟩
            have := delGet_list Bk.cells default l k hk j (by omega)
            simpa using this
          · have h5 : ¬ day ≤ (l.getD k default).F := by simpa using hc5
            have ec : cutL l k day = l.set k ⟨(l.getD k default).ID, (l.getD k default).Rd, (l.getD k default).F, day⟩ := by unfold cutL; rw [if_neg h5]
            rw [ec]
            refine good_run 20 (obs := [(4 : Nat) = (4 : Nat) ∧ (0 : Int) ≤ (↑k : Int) ∧ (↑k : Int) < (↑(List.length l) : Int), (1 : Nat) = (1 : Nat) ∧ (3 : Nat) + (1 : Nat) ≤ (4 : Nat)]) (by kernel_rfl) (by (first | omega | assumption | exact ⟨rfl, trivial⟩ | simp only [AllP, inK_iff, roomOK_iff, decide_eq_true_eq, Bool.and_eq_true, Bool.or_eq_true, Bool.not_eq_true', decide_eq_false_iff_not, and_true, true_and]; (first | omega | (and_intros <;> intros <;> (try and_intros) <;> first | omega | assumption | exact trivial)))) ?_
            refine good_fin [List.length l = List.length (List.set l k { ID := (List.getD l k default).ID, Rd := (List.getD l k default).Rd, F := (List.getD l k default).F, U := day }, (0 : Int)).fst ∧ ∀ (i : Nat), i < List.length l → (fun j => if j = k then lay ((fun i => Bk.cells (List.getD l i default)) k) (3 : Nat) [SV.int IntKind.i64 day] else (fun i => Bk.cells (List.getD l i default)) j) i = (fun i => Bk.cells (List.getD (List.set l k { ID := (List.getD l k default).ID, Rd := (List.getD l k default).Rd, F := (List.getD l k default).F, U := day }, (0 : Int)).fst i default)) i, (0 : Int) = (0 : Int)] (by kernel_rfl) ⟨?_, rfl, trivial⟩
            refine ⟨by rw [List.length_set], fun j hj => ?_⟩
            show (if j = k then _ else _) = Bk.cells (List.getD (List.set _ _ _) _ _)
            rw [getD_set _ _ _ _ hk]
            split
            · rename_i h; subst h; rfl
            · rfl
theorem canL_take (l : List Bk) (id day : Int) (k : Nat) (hk : k < l.length) : canL (l.take (k + 1)) id day = canL (l.take k) id day ++ canF id day (l.getD k default) := by
  rw [take_snoc l default k hk, canL_snoc]
def rowB (l : List Bk) : Blk := .row 31 4 l.length true fun i => (l.getD i default).cells
def hasE (l : List Bk) (id : Int) (k : Nat) : Int := if (l.take k).any (idIs id) = true then 0 else 7
theorem idIs_iff {id : Int} {b : Bk} : idIs id b = true ↔ b.ID = id := by unfold idIs; rw [decide_eq_true_eq]
theorem hasE_take (l : List Bk) (id : Int) (k : Nat) (hk : k < l.length) : hasE l id (k + 1) = if (l.getD k default).ID = id then 0 else hasE l id k := by
  unfold hasE
  rw [take_snoc l default k hk, List.any_append, List.any_cons, List.any_nil, Bool.or_false]
  by_cases h : (l.getD k default).ID = id
  · rw [if_pos h, if_pos (by rw [idIs_iff.2 h, Bool.or_true])]
  · have : idIs id (l.getD k default) = false := by rw [Bool.eq_false_iff]; exact fun h' => h (idIs_iff.1 h')
    rw [if_neg h, this, Bool.or_false]
theorem s21 (s : Int) (l : List Bk) (id day : Int) : Spec Try.prog 21 [.int .i64 s, bks l, .int .i64 id, .int .i64 day] (.tup [bks (cancelL s l id day).1, .int .i64 (cancelL s l id day).2]) := by
  refine spec_of_good mixed Try.func21 F21_ok (by kernel_rfl) ?_
  refine good_run 11 (obs := []) (by kernel_rfl) trivial ?_
  refine good_call (c := True) (by kernel_rfl) (fun _ => SVles.refl _) (fun _ => s15 (s) (l)) (by kernel_rfl) ?_
  refine good_run 3 (obs := []) (by kernel_rfl) trivial ?_
  refine good_cond (!decide (checkL s l = (0 : Int))) (by kernel_rfl) (fun hc1 => ?_) (fun hc1 => ?_)
  · have h : checkL s l ≠ 0 := by simpa using hc1
    have e : cancelL s l id day = ([], 1) := by unfold cancelL; rw [if_pos h]
    rw [e]
    refine good_run 8 (obs := []) (by kernel_rfl) trivial ?_
    refine good_fin [(0 : Nat) = (0 : Nat), (1 : Int) = (1 : Int)] (by kernel_rfl) ⟨rfl, rfl, trivial⟩
  · have h : checkL s l = 0 := by simpa using hc1
    have hR := right_iff.1 h
    have hr := hR.len
    have e0 : cancelL s l id day = if findI l (idIs id) < 0 then ([], 7) else if (decide (day < 0) || decide (1048575 < day)) = true then ([], 2)
      else if (l.getD (findI l (idIs id)).toNat default).U ≤ day then ([], 11) else (cutL l (findI l (idIs id)).toNat day, 0) := by unfold cancelL; rw [if_neg (by simp [h])]
    -- the one booking with the ID
    have huniq : ∀ k, k < l.length → (l.getD k default).ID = id → findI l (idIs id) = k := fun k hk he => findI_hit l (idIs id) k hk (idIs_iff.2 he) fun j hj => by
      have := List.pairwise_iff_getElem.1 (right_ids hR) j k (by omega) hk hj
      rw [getD_of_lt l k hk] at he
      rw [getD_of_lt l j (by omega)]
      unfold idIs; rw [decide_eq_false_iff_not]; omega
    have hbad : ∀ k, k < l.length → (l.getD k default).ID = id → (decide (day < 0) || decide (1048575 < day)) = true → cancelL s l id day = ([], 2) := fun k hk he hb => by
      rw [e0, huniq k hk he, if_neg (by omega), if_pos hb]
    have hbad2 : ∀ k, k < l.length → (l.getD k default).ID = id → (decide (day < 0) || decide (1048575 < day)) = false → (l.getD k default).U ≤ day → cancelL s l id day = ([], 11) := fun k hk he hb hu => by
      rw [e0, huniq k hk he, if_neg (by omega), if_neg (by rw [hb]; decide), Int.toNat_natCast, if_pos hu]
    have hok : ∀ k, k < l.length → (l.getD k default).ID = id → (decide (day < 0) || decide (1048575 < day)) = false → ¬ (l.getD k default).U ≤ day → cancelL s l id day = (canL l id day, 0) := fun k hk he hb hu => by
      rw [e0, huniq k hk he, if_neg (by omega), if_neg (by rw [hb]; decide), Int.toNat_natCast, if_neg hu, canL_cut hk he (right_ids hR)]
    have hno : (∀ k, k < l.length → (l.getD k default).ID ≠ id) → cancelL s l id day = ([], 7) := fun hn => by
      rw [e0, findI_none l (idIs id) fun j hj => by unfold idIs; rw [decide_eq_false_iff_not]; exact hn j hj, if_pos (by decide)]
    refine good_run 20 (obs := []) (by kernel_rfl) trivial ?_
    refine good_loopJ (fun k : Nat => ⟨[(20, .sv (.int .i64 (k))), (10, .own 0), (11, .sv (.int .i64 ((hasE l id k)))), (19, LV.sv (SV.int IntKind.i64 (↑(List.length l) : Int))), (18, LV.sv (SV.lst (4 : Nat) (List.length l) fun i => Bk.cells (List.getD l i default))), (2, LV.sv (SV.int IntKind.i64 id)), (3, LV.sv (SV.int IntKind.i64 day))], [rowB (canL (l.take k) id day)]⟩) (fun k => k ≤ l.length ∧ ∀ j, j < k → (l.getD j default).ID = id → (decide (day < 0) || decide (1048575 < day)) = false ∧ ¬ (l.getD j default).U ≤ day) (fun k => l.length - k) (0) [(0 : Nat) = (0 : Nat), (0 : Int) = (0 : Int), (7 : Int) = hasE l id (0 : Nat), (↑(List.length l) : Int) = (↑(List.length l) : Int), List.length l = List.length l ∧ ∀ (i : Nat), i < List.length l → (fun i => Bk.cells (List.getD l i default)) i = (fun i => Bk.cells (List.getD l i default)) i, id = id, day = day] (by kernel_rfl) (by kernel_rfl) ⟨rfl, rfl, (by rfl), rfl, ⟨rfl, fun _ _ => rfl⟩, rfl, rfl, trivial⟩ ⟨by omega, by omega⟩ ?_
    intro k hk
    have hcl := canL_len id day (l.take k)
    rw [List.length_take] at hcl
    refine good_run 6 (obs := []) (by kernel_rfl) trivial ?_
    refine good_cond (decide ((↑k : Int) < (↑(List.length l) : Int))) (by kernel_rfl) (fun hc2 => ?_) (fun hc2 => ?_)
    · have hlt : k < l.length := by simp only [decide_eq_true_eq] at hc2; omega
      have ht := canL_take l id day k hlt
      have he := hasE_take l id k hlt
      refine good_run 20 (obs := [(4 : Nat) = (4 : Nat) ∧ (0 : Int) ≤ (↑k : Int) ∧ (↑k : Int) < (↑(List.length l) : Int), (0 : Nat) + (4 : Nat) ≤ (4 : Nat), (4 : Nat) = (4 : Nat) ∧ (0 : Nat) + (4 : Nat) ≤ (4 : Nat)]) (by kernel_rfl) (by (first | omega | assumption | exact ⟨rfl, trivial⟩ | simp only [AllP, inK_iff, roomOK_iff, decide_eq_true_eq, Bool.and_eq_true, Bool.or_eq_true, Bool.not_eq_true', decide_eq_false_iff_not, and_true, true_and]; (first | omega | (and_intros <;> intros <;> (try and_intros) <;> first | omega | assumption | exact trivial)))) ?_
      refine good_cond (decide ((List.getD l k default).ID = id)) (by kernel_rfl) (fun hc3 => ?_) (fun hc3 => ?_)
      · have hid : (l.getD k default).ID = id := by simpa using hc3
        rw [if_pos hid] at he
        rw [canF, if_pos hid] at ht
        refine good_run 11 (obs := []) (by kernel_rfl) trivial ?_
        refine good_cond (decide (day < (0 : Int)) || decide ((1048575 : Int) < day)) (by kernel_rfl) (fun hc4 => ?_) (fun hc4 => ?_)
        · rw [hbad k hlt hid hc4]
          refine good_run 11 (obs := []) (by kernel_rfl) trivial ?_
          refine good_leaveJ (by kernel_rfl) ?_
          refine good_run 2 (obs := []) (by kernel_rfl) trivial ?_
          refine good_fin [(0 : Nat) = (0 : Nat), (2 : Int) = (2 : Int)] (by kernel_rfl) ⟨rfl, rfl, trivial⟩
        · refine good_run 11 (obs := []) (by kernel_rfl) trivial ?_
          refine good_cond (decide ((List.getD l k default).U ≤ day)) (by kernel_rfl) (fun hc5 => ?_) (fun hc5 => ?_)
          · rw [hbad2 k hlt hid hc4 (by simpa using hc5)]
            refine good_run 11 (obs := []) (by kernel_rfl) trivial ?_
            refine good_leaveJ (by kernel_rfl) ?_
            refine good_run 2 (obs := []) (by kernel_rfl) trivial ?_
            refine good_fin [(0 : Nat) = (0 : Nat), (11 : Int) = (11 : Int)] (by kernel_rfl) ⟨rfl, rfl, trivial⟩
          · have hu : ¬ (l.getD k default).U ≤ day := by simpa using hc5
            have hJ : k + 1 ≤ l.length ∧ ∀ j, j < k + 1 → (l.getD j default).ID = id → (decide (day < 0) || decide (1048575 < day)) = false ∧ ¬ (l.getD j default).U ≤ day := ⟨hlt, fun j hj hje => by
              by_cases e : j = k
              · subst e; exact ⟨hc4, hu⟩
              · exact hk.2 j (by omega) hje⟩
            refine good_run 16 (obs := []) (by kernel_rfl) trivial ?_
            refine good_cond (decide (day ≤ (List.getD l k default).F)) (by kernel_rfl) (fun hc6 => ?_) (fun hc6 => ?_)
            · rw [if_pos (by simpa using hc6), List.append_nil] at ht
              refine good_run 9 (obs := [InK IntKind.i64 ((↑k : Int) + (1 : Int))]) (by kernel_rfl) (by (first | omega | assumption | exact ⟨rfl, trivial⟩ | simp only [AllP, inK_iff, roomOK_iff, decide_eq_true_eq, Bool.and_eq_true, Bool.or_eq_true, Bool.not_eq_true', decide_eq_false_iff_not, and_true, true_and]; (first | omega | (and_intros <;> intros <;> (try and_intros) <;> first | omega | assumption | exact trivial)))) ?_
              refine good_backJ (k + 1) [List.length (canL (List.take k l) id day) = List.length (canL (List.take (k + (1 : Nat)) l) id day) ∧ ∀ (i : Nat), i < List.length (canL (List.take k l) id day) → (fun i => Bk.cells (List.getD (canL (List.take k l) id day) i default)) i = (fun i => Bk.cells (List.getD (canL (List.take (k + (1 : Nat)) l) id day) i default)) i, (↑k : Int) + (1 : Int) = (↑(k + (1 : Nat)) : Int), (0 : Int) = hasE l id (k + (1 : Nat)), (↑(List.length l) : Int) = (↑(List.length l) : Int), List.length l = List.length l ∧ ∀ (i : Nat), i < List.length l → (fun i => Bk.cells (List.getD l i default)) i = (fun i => Bk.cells (List.getD l i default)) i, id = id, day = day] (by kernel_rfl) (by kernel_rfl) ⟨?_, (by omega), (by omega), rfl, ⟨rfl, fun _ _ => rfl⟩, rfl, rfl, trivial⟩ (by omega) (by show _ < _; omega)
              · rw [ht]; exact ⟨rfl, fun _ _ => rfl⟩
            · rw [if_neg (by simpa using hc6)] at ht
              refine good_run 22 (obs := [(1 : Nat) = (1 : Nat) ∧ (3 : Nat) + (1 : Nat) ≤ (4 : Nat), (0 : Nat) + (4 : Nat) ≤ (4 : Nat), (31 : Nat) = (31 : Nat) ∧ (4 : Nat) = (4 : Nat) ∧ (4 : Nat) = (4 : Nat) ∧ roomOK (List.length (canL (List.take k l) id day) + (1 : Nat)) (32 : Nat), InK IntKind.i64 ((↑k : Int) + (1 : Int))]) (by kernel_rfl) (by (first | omega | assumption | exact ⟨rfl, trivial⟩ | simp only [AllP, inK_iff, roomOK_iff, decide_eq_true_eq, Bool.and_eq_true, Bool.or_eq_true, Bool.not_eq_true', decide_eq_false_iff_not, and_true, true_and]; (first | omega | (and_intros <;> intros <;> (try and_intros) <;> first | omega | assumption | exact trivial)))) ?_
              refine good_backJ (k + 1) [List.length (canL (List.take k l) id day) + (1 : Nat) = List.length (canL (List.take (k + (1 : Nat)) l) id day) ∧ ∀ (i : Nat), i < List.length (canL (List.take k l) id day) + (1 : Nat) → joinGet (List.length (canL (List.take k l) id day)) (fun i => Bk.cells (List.getD (canL (List.take k l) id day) i default)) (cutRows (4 : Nat) [SV.int IntKind.i64 (List.getD l k default).ID, SV.int IntKind.i64 (List.getD l k default).Rd, SV.int IntKind.i64 (List.getD l k default).F, SV.int IntKind.i64 day]) i = (fun i => Bk.cells (List.getD (canL (List.take (k + (1 : Nat)) l) id day) i default)) i, (↑k : Int) + (1 : Int) = (↑(k + (1 : Nat)) : Int), (0 : Int) = hasE l id (k + (1 : Nat)), (↑(List.length l) : Int) = (↑(List.length l) : Int), List.length l = List.length l ∧ ∀ (i : Nat), i < List.length l → (fun i => Bk.cells (List.getD l i default)) i = (fun i => Bk.cells (List.getD l i default)) i, id = id, day = day] (by kernel_rfl) (by kernel_rfl) ⟨?_, (by omega), (by omega), rfl, ⟨rfl, fun _ _ => rfl⟩, rfl, rfl, trivial⟩ (by omega) (by show _ < _; omega)
              · rw [ht]; exact row_snoc' Bk.cells default _ (⟨(l.getD k default).ID, (l.getD k default).Rd, (l.getD k default).F, day⟩ : Bk) 4 rfl
      · have hid : ¬ (l.getD k default).ID = id := by simpa using hc3
        rw [if_neg hid] at he
        rw [canF, if_neg hid] at ht
        have hJ : k + 1 ≤ l.length ∧ ∀ j, j < k + 1 → (l.getD j default).ID = id → (decide (day < 0) || decide (1048575 < day)) = false ∧ ¬ (l.getD j default).U ≤ day := ⟨hlt, fun j hj hje => by
          by_cases e : j = k
          · subst e; exact (hid hje).elim
          · exact hk.2 j (by omega) hje⟩
        refine good_run 15 (obs := [(0 : Nat) + (4 : Nat) ≤ (4 : Nat), (31 : Nat) = (31 : Nat) ∧ (4 : Nat) = (4 : Nat) ∧ (4 : Nat) = (4 : Nat) ∧ roomOK (List.length (canL (List.take k l) id day) + (1 : Nat)) (32 : Nat), InK IntKind.i64 ((↑k : Int) + (1 : Int))]) (by kernel_rfl) (by (first | omega | assumption | exact ⟨rfl, trivial⟩ | simp only [AllP, inK_iff, roomOK_iff, decide_eq_true_eq, Bool.and_eq_true, Bool.or_eq_true, Bool.not_eq_true', decide_eq_false_iff_not, and_true, true_and]; (first | omega | (and_intros <;> intros <;> (try and_intros) <;> first | omega | assumption | exact trivial)))) ?_
        refine good_backJ (k + 1) [List.length (canL (List.take k l) id day) + (1 : Nat) = List.length (canL (List.take (k + (1 : Nat)) l) id day) ∧ ∀ (i : Nat), i < List.length (canL (List.take k l) id day) + (1 : Nat) → joinGet (List.length (canL (List.take k l) id day)) (fun i => Bk.cells (List.getD (canL (List.take k l) id day) i default)) (cutRows (4 : Nat) [SV.int IntKind.i64 (List.getD l k default).ID, SV.int IntKind.i64 (List.getD l k default).Rd, SV.int IntKind.i64 (List.getD l k default).F, SV.int IntKind.i64 (List.getD l k default).U]) i = (fun i => Bk.cells (List.getD (canL (List.take (k + (1 : Nat)) l) id day) i default)) i, (↑k : Int) + (1 : Int) = (↑(k + (1 : Nat)) : Int), hasE l id k = hasE l id (k + (1 : Nat)), (↑(List.length l) : Int) = (↑(List.length l) : Int), List.length l = List.length l ∧ ∀ (i : Nat), i < List.length l → (fun i => Bk.cells (List.getD l i default)) i = (fun i => Bk.cells (List.getD l i default)) i, id = id, day = day] (by kernel_rfl) (by kernel_rfl) ⟨?_, (by omega), (by omega), rfl, ⟨rfl, fun _ _ => rfl⟩, rfl, rfl, trivial⟩ (by omega) (by show _ < _; omega)
        · rw [ht]; exact row_snoc' Bk.cells default _ _ 4 rfl
    · have : k = l.length := by simp only [decide_eq_false_iff_not] at hc2; have := hk.1; omega
      subst this
      rw [List.take_length] at hcl ⊢
      have hE : hasE l id l.length = if l.any (idIs id) = true then 0 else 7 := by unfold hasE; rw [List.take_length]
      rw [hE]
      rcases findI_cases l (idIs id) with ⟨_, _, _, ha⟩ | ⟨k, hkl, _, _, _, hg, ha⟩
      · have hn : ∀ k, k < l.length → (l.getD k default).ID ≠ id := fun k hkl hid => by
          rw [List.any_eq_false] at ha
          exact ha _ (getD_mem' l k hkl) (idIs_iff.2 hid)
        rw [ha, hno hn, if_neg (by decide)]
        refine good_run 2 (obs := []) (by kernel_rfl) trivial ?_
        refine good_leaveJ (by kernel_rfl) ?_
        refine good_run 8 (obs := []) (by kernel_rfl) trivial ?_
        refine good_cond true (by kernel_rfl) (fun _ => ?_) (fun h => nomatch h)
        refine good_run 9 (obs := []) (by kernel_rfl) trivial ?_
        refine good_fin [(0 : Nat) = (0 : Nat), (7 : Int) = (7 : Int)] (by kernel_rfl) ⟨rfl, rfl, trivial⟩
      · have hid : (l.getD k default).ID = id := idIs_iff.1 hg
        obtain ⟨h1, h2⟩ := hk.2 k hkl hid
        rw [ha, hok k hkl hid h1 h2, if_pos rfl]
        refine good_run 2 (obs := []) (by kernel_rfl) trivial ?_
        refine good_leaveJ (by kernel_rfl) ?_
        refine good_run 8 (obs := []) (by kernel_rfl) trivial ?_
        refine good_cond false (by kernel_rfl) (fun h => nomatch h) (fun _ => ?_)
        refine good_run 9 (obs := []) (by kernel_rfl) trivial ?_
        refine good_fin [List.length (canL l id day) = List.length (canL l id day, (0 : Int)).fst ∧ ∀ (i : Nat), i < List.length (canL l id day) → (fun i => Bk.cells (List.getD (canL l id day) i default)) i = (fun i => Bk.cells (List.getD (canL l id day, (0 : Int)).fst i default)) i, (0 : Int) = (0 : Int)] (by kernel_rfl) ⟨⟨rfl, fun _ _ => rfl⟩, rfl, trivial⟩
end Go.Sx.T
