/- Contracts of functions of the program, each proved by running its code symbolically (QS). -/
import Derived.Test.YtepkgkdbnoiieaaQR
namespace Go.Sx.T
open Go Go.Proofs Go.Sx
set_option maxRecDepth 100000
set_option maxHeartbeats 8000000
set_option linter.unusedVariables false
set_option linter.unusedSimpArgs false
theorem s48 (l : List Int) (n : Int) : Spec Try.prog 48 [ints l, .int .i64 n] (.bool (decide (n ∈ l))) := by
  refine spec_len 0 rfl (hasBody_of_slim Try.func48 F48_ok) fun hlen => ?_
  refine spec_of_good mixed Try.func48 F48_ok (by kernel_rfl) ?_
  rw [← any_mem]
  refine good_run 12 (obs := []) (by kernel_rfl) trivial ?_
  refine good_loopJ (fun k : Nat => ⟨[(5, .sv (.int .i64 (k))), (0, LV.sv (SV.lst (1 : Nat) (List.length l) fun i => [SV.int IntKind.i64 (List.getD l i (0 : Int))])), (1, LV.sv (SV.int IntKind.i64 n))], []⟩) (fun k => k ≤ l.length ∧ ∀ j, j < k → eqK n (l.getD j 0) = false) (fun k => l.length - k) (0) [(0 : Int) = (0 : Int), List.length l = List.length l ∧ ∀ (i : Nat), i < List.length l → (fun i => [SV.int IntKind.i64 (List.getD l i (0 : Int))]) i = (fun i => [SV.int IntKind.i64 (List.getD l i (0 : Int))]) i, n = n] (by kernel_rfl) (by kernel_rfl) ⟨rfl, ⟨rfl, fun _ _ => rfl⟩, rfl, trivial⟩ ⟨by omega, by omega⟩ ?_
  intro k hk
  refine good_run 9 (obs := []) (by kernel_rfl) trivial ?_
  refine good_cond (decide ((↑k : Int) < (↑(List.length l) : Int))) (by kernel_rfl) (fun hc1 => ?_) (fun hc1 => ?_)
  · have hlt : k < l.length := by simp only [decide_eq_true_eq] at hc1; omega
    refine good_run 13 (obs := [(1 : Nat) = (1 : Nat) ∧ (0 : Int) ≤ (↑k : Int) ∧ (↑k : Int) < (↑(List.length l) : Int)]) (by kernel_rfl) (by (first | omega | assumption | exact ⟨rfl, trivial⟩ | simp only [AllP, inK_iff, roomOK_iff, decide_eq_true_eq, Bool.and_eq_true, Bool.or_eq_true, Bool.not_eq_true', decide_eq_false_iff_not, and_true, true_and]; (first | omega | (and_intros <;> intros <;> (try and_intros) <;> first | omega | assumption | exact trivial)))) ?_
    refine good_cond (decide (List.getD l k (0 : Int) = n)) (by kernel_rfl) (fun hc2 => ?_) (fun hc2 => ?_)
    · have h2 : eqK n (l.getD k 0) = true := by simp only [decide_eq_true_eq] at hc2; simp only [eqK, decide_eq_true_eq]; omega
      have := findI_hit l (eqK n) k hlt h2 hk.2
      rw [this]
      refine good_run 8 (obs := []) (by kernel_rfl) trivial ?_
      refine good_leaveJ (by kernel_rfl) ?_
      refine good_run 2 (obs := []) (by kernel_rfl) trivial ?_
      refine good_fin [true = decide ((0 : Int) ≤ (↑k : Int))] (by kernel_rfl) ⟨(by rfl), trivial⟩
    · refine good_run 8 (obs := [InK IntKind.i64 ((↑k : Int) + (1 : Int))]) (by kernel_rfl) (by (first | omega | assumption | exact ⟨rfl, trivial⟩ | simp only [AllP, inK_iff, roomOK_iff, decide_eq_true_eq, Bool.and_eq_true, Bool.or_eq_true, Bool.not_eq_true', decide_eq_false_iff_not, and_true, true_and]; (first | omega | (and_intros <;> intros <;> (try and_intros) <;> first | omega | assumption | exact trivial)))) ?_
      refine good_backJ (k + 1) [(↑k : Int) + (1 : Int) = (↑(k + (1 : Nat)) : Int), List.length l = List.length l ∧ ∀ (i : Nat), i < List.length l → (fun i => [SV.int IntKind.i64 (List.getD l i (0 : Int))]) i = (fun i => [SV.int IntKind.i64 (List.getD l i (0 : Int))]) i, n = n] (by kernel_rfl) (by kernel_rfl) ⟨(by omega), ⟨rfl, fun _ _ => rfl⟩, rfl, trivial⟩ ?_ (by show _ < _; omega)
      refine ⟨hlt, fun j hj => ?_⟩
      rcases Nat.lt_or_ge j k with h | h
      · exact hk.2 j h
      · have : j = k := by omega
        subst this
        simp only [decide_eq_false_iff_not] at hc2; simp only [eqK, decide_eq_false_iff_not]; omega
  · have : k = l.length := by simp only [decide_eq_false_iff_not] at hc1; omega
    subst this
    have := findI_none l (eqK n) hk.2
    rw [this]
    refine good_run 2 (obs := []) (by kernel_rfl) trivial ?_
    refine good_leaveJ (by kernel_rfl) ?_
    refine good_run 7 (obs := []) (by kernel_rfl) trivial ?_
    refine good_fin [false = decide ((0 : Int) ≤ (-1 : Int))] (by kernel_rfl) ⟨(by rfl), trivial⟩
theorem s51 (l : List Int) (n : Int) : Spec Try.prog 51 [ints l, .int .i64 n] (.int .i64 (findI l (eqK n))) := by
  refine spec_len 0 rfl (hasBody_of_slim Try.func51 F51_ok) fun hlen => ?_
  refine spec_of_good mixed Try.func51 F51_ok (by kernel_rfl) ?_
  refine good_run 12 (obs := []) (by kernel_rfl) trivial ?_
  refine good_loopJ (fun k : Nat => ⟨[(5, .sv (.int .i64 (k))), (0, LV.sv (SV.lst (1 : Nat) (List.length l) fun i => [SV.int IntKind.i64 (List.getD l i (0 : Int))])), (1, LV.sv (SV.int IntKind.i64 n))], []⟩) (fun k => k ≤ l.length ∧ ∀ j, j < k → eqK n (l.getD j 0) = false) (fun k => l.length - k) (0) [(0 : Int) = (0 : Int), List.length l = List.length l ∧ ∀ (i : Nat), i < List.length l → (fun i => [SV.int IntKind.i64 (List.getD l i (0 : Int))]) i = (fun i => [SV.int IntKind.i64 (List.getD l i (0 : Int))]) i, n = n] (by kernel_rfl) (by kernel_rfl) ⟨rfl, ⟨rfl, fun _ _ => rfl⟩, rfl, trivial⟩ ⟨by omega, by omega⟩ ?_
  intro k hk
  refine good_run 9 (obs := []) (by kernel_rfl) trivial ?_
  refine good_cond (decide ((↑k : Int) < (↑(List.length l) : Int))) (by kernel_rfl) (fun hc1 => ?_) (fun hc1 => ?_)
  · have hlt : k < l.length := by simp only [decide_eq_true_eq] at hc1; omega
    refine good_run 13 (obs := [(1 : Nat) = (1 : Nat) ∧ (0 : Int) ≤ (↑k : Int) ∧ (↑k : Int) < (↑(List.length l) : Int)]) (by kernel_rfl) (by (first | omega | assumption | exact ⟨rfl, trivial⟩ | simp only [AllP, inK_iff, roomOK_iff, decide_eq_true_eq, Bool.and_eq_true, Bool.or_eq_true, Bool.not_eq_true', decide_eq_false_iff_not, and_true, true_and]; (first | omega | (and_intros <;> intros <;> (try and_intros) <;> first | omega | assumption | exact trivial)))) ?_
    refine good_cond (decide (List.getD l k (0 : Int) = n)) (by kernel_rfl) (fun hc2 => ?_) (fun hc2 => ?_)
    · have h2 : eqK n (l.getD k 0) = true := by simp only [decide_eq_true_eq] at hc2; simp only [eqK, decide_eq_true_eq]; omega
      have := findI_hit l (eqK n) k hlt h2 hk.2
      refine good_run 9 (obs := []) (by kernel_rfl) trivial ?_
      refine good_leaveJ (by kernel_rfl) ?_
      refine good_run 2 (obs := []) (by kernel_rfl) trivial ?_
      refine good_fin [(↑k : Int) = findI l (eqK n)] (by kernel_rfl) ⟨(by omega), trivial⟩
    · refine good_run 8 (obs := [InK IntKind.i64 ((↑k : Int) + (1 : Int))]) (by kernel_rfl) (by (first | omega | assumption | exact ⟨rfl, trivial⟩ | simp only [AllP, inK_iff, roomOK_iff, decide_eq_true_eq, Bool.and_eq_true, Bool.or_eq_true, Bool.not_eq_true', decide_eq_false_iff_not, and_true, true_and]; (first | omega | (and_intros <;> intros <;> (try and_intros) <;> first | omega | assumption | exact trivial)))) ?_
      refine good_backJ (k + 1) [(↑k : Int) + (1 : Int) = (↑(k + (1 : Nat)) : Int), List.length l = List.length l ∧ ∀ (i : Nat), i < List.length l → (fun i => [SV.int IntKind.i64 (List.getD l i (0 : Int))]) i = (fun i => [SV.int IntKind.i64 (List.getD l i (0 : Int))]) i, n = n] (by kernel_rfl) (by kernel_rfl) ⟨(by omega), ⟨rfl, fun _ _ => rfl⟩, rfl, trivial⟩ ?_ (by show _ < _; omega)
      refine ⟨hlt, fun j hj => ?_⟩
      rcases Nat.lt_or_ge j k with h | h
      · exact hk.2 j h
      · have : j = k := by omega
        subst this
        simp only [decide_eq_false_iff_not] at hc2; simp only [eqK, decide_eq_false_iff_not]; omega
  · have : k = l.length := by simp only [decide_eq_false_iff_not] at hc1; omega
    subst this
    have := findI_none l (eqK n) hk.2
    refine good_run 2 (obs := []) (by kernel_rfl) trivial ?_
    refine good_leaveJ (by kernel_rfl) ?_
    refine good_run 7 (obs := []) (by kernel_rfl) trivial ?_
    refine good_fin [(-1 : Int) = findI l (eqK n)] (by kernel_rfl) ⟨(by omega), trivial⟩
/-- One number of a sequence behind a move. -/
def stepX (m : Shift) (x : Int) : List Int := (if x = m.Before then [m.Number] else []) ++ (if x ≠ m.Number then [x] else [])
def stepsX (m : Shift) (o : List Int) : List Int := o.flatMap (stepX m)
def refStep (o : List Int) (m : Shift) : List Int := stepsX m o ++ (if m.Before = 0 then [m.Number] else [])
def refF (l : List Int) : List Int → List Shift → List Int × Int
  | o, [] => (o, 0)
  | o, m :: r => if appOK l m = 0 then refF l (refStep o m) r else ([], appOK l m)
def refApply (l : List Int) (ms : List Shift) : List Int × Int := if chkL l = 0 then if 1024 < ms.length then ([], 8) else refF l l ms else ([], chkL l)
theorem stepsX_snoc (m : Shift) (o : List Int) (j : Nat) (h : j < o.length) : stepsX m (o.take (j + 1)) = stepsX m (o.take j) ++ stepX m (o.getD j 0) := by
  unfold stepsX
  rw [take_snoc o j h, List.flatMap_append]
  simp
theorem stepsX_no (m : Shift) : ∀ A : List Int, m.Before ∉ A → stepsX m A = restO A m
  | [], _ => rfl
  | x :: A, h => by
    have ih := stepsX_no m A fun h' => h (List.mem_cons_of_mem _ h')
    have hx : x ≠ m.Before := fun e => h (by rw [e]; exact List.mem_cons_self ..)
    unfold stepsX restO at *
    rw [List.flatMap_cons, ih, List.filter_cons]
    unfold stepX
    rw [if_neg hx]
    by_cases e : x = m.Number
    · rw [if_neg (fun h => h e), if_neg (by simp [eqK, e])]; rfl
    · rw [if_pos e, if_pos (by simp [eqK, e])]; rfl
theorem restO_append (A B : List Int) (m : Shift) : restO (A ++ B) m = restO A m ++ restO B m := List.filter_append ..
theorem restO_cons (x : Int) (B : List Int) (m : Shift) (h : x ≠ m.Number) : restO (x :: B) m = x :: restO B m := by
  unfold restO
  rw [List.filter_cons, if_pos (by simp [eqK, h])]
theorem appOK_zero {o : List Int} {m : Shift} : appOK o m = 0 ↔ m.Number ∈ o ∧ (m.Before = 0 ∨ m.Before ∈ o) ∧ m.Number ≠ m.Before := by
  unfold appOK
  constructor
  · intro h
    split at h
    · simp at h
    · rename_i h1
      split at h
      · simp at h
      · rename_i h2
        refine ⟨Classical.byContradiction fun h => h1 (.inl h), Classical.byContradiction fun h => h1 (.inr ⟨fun e => h (.inl e), fun e => h (.inr e)⟩), h2⟩
  · rintro ⟨h1, h2, h3⟩
    rw [if_neg, if_neg h3]
    rintro (h | ⟨h, h'⟩)
    · exact h h1
    · rcases h2 with h2 | h2
      · exact h h2
      · exact h' h2
theorem appOK_perm {o l : List Int} (h : o.Perm l) (m : Shift) : appOK o m = appOK l m := by
  unfold appOK
  simp only [h.mem_iff]
/-- Where the number comes to stand. -/
theorem appStep_split (A C : List Int) (m : Shift) (hn : (A ++ m.Before :: C).Nodup) (hd : m.Number ≠ m.Before) : appStep (A ++ m.Before :: C) m = restO A m ++ m.Number :: m.Before :: restO C m := by
  have hA : m.Before ∉ A := fun h => (List.nodup_append.1 hn).2.2 _ h _ (List.mem_cons_self ..) rfl
  have e : restO (A ++ m.Before :: C) m = restO A m ++ m.Before :: restO C m := by
    rw [restO_append, restO_cons _ _ _ (fun e => hd e.symm)]
  have hf : findI (restO (A ++ m.Before :: C) m) (eqK m.Before) = ((restO A m).length : Int) := by
    rw [e]
    refine findI_hit _ _ _ (by simp) ?_ fun j hj => ?_
    · rw [getD_append_right _ _ _ (Nat.le_refl _), Nat.sub_self]; simp [eqK]
    · rw [getD_append_left _ _ _ hj]
      have hm : (restO A m).getD j default ∈ A := (List.mem_filter.1 (getD_mem _ default _ hj)).1
      simp only [eqK, decide_eq_false_iff_not]
      intro e'
      rw [e'] at hm
      exact hA hm
  unfold appStep placeO
  rw [hf, if_neg (by omega), Int.toNat_natCast, e, insIdx_split _ _ _ (by simp), List.take_left, List.drop_left]
theorem appStep_zero (o : List Int) (m : Shift) (h0 : m.Before ∉ o) : appStep o m = restO o m ++ [m.Number] := by
  have hf : findI (restO o m) (eqK m.Before) = -1 := findI_none _ _ fun j hj => by
    have hm : (restO o m).getD j default ∈ o := (List.mem_filter.1 (getD_mem _ default _ hj)).1
    simp only [eqK, decide_eq_false_iff_not]
    intro e'
    rw [e'] at hm
    exact h0 hm
  unfold appStep placeO
  rw [hf, if_pos (by decide), Int.toNat_natCast, insIdx_split _ _ _ (Nat.le_refl _), List.take_length, List.drop_length]
theorem refStep_eq (o : List Int) (m : Shift) (hn : o.Nodup) (h0 : (0 : Int) ∉ o) (ha : appOK o m = 0) : refStep o m = appStep o m := by
  obtain ⟨h1, h2, h3⟩ := appOK_zero.1 ha
  by_cases hb : m.Before ∈ o
  · obtain ⟨A, C, e⟩ := List.append_of_mem hb
    have hz : m.Before ≠ 0 := fun e' => h0 (by rw [← e']; exact hb)
    subst e
    have hA : m.Before ∉ A := fun h => (List.nodup_append.1 hn).2.2 _ h _ (List.mem_cons_self ..) rfl
    have hC : m.Before ∉ C := (List.nodup_cons.1 (List.nodup_append.1 hn).2.1).1
    rw [appStep_split A C m hn h3]
    unfold refStep
    rw [if_neg hz, List.append_nil]
    have : stepsX m (A ++ m.Before :: C) = stepsX m A ++ (stepX m m.Before ++ stepsX m C) := by
      unfold stepsX; rw [List.flatMap_append, List.flatMap_cons]
    rw [this, stepsX_no m A hA, stepsX_no m C hC]
    unfold stepX
    rw [if_pos rfl, if_pos (fun e => h3 e.symm)]
    simp
  · have hz : m.Before = 0 := by
      rcases h2 with h | h
      · exact h
      · exact absurd h hb
    unfold refStep
    rw [if_pos hz, stepsX_no m o hb, appStep_zero o m hb]
theorem appStep_perm (o : List Int) (m : Shift) (hn : o.Nodup) (hm : m.Number ∈ o) : (appStep o m).Perm o := by
  have h1 : (appStep o m).Perm (m.Number :: restO o m) := by
    unfold appStep
    have := (placeO_bd o m).2
    rw [insIdx_split _ _ _ (by omega)]
    refine List.perm_middle.trans ?_
    rw [List.take_append_drop]
  refine h1.trans ?_
  have h2 : restO o m = o.erase m.Number := by
    rw [hn.erase_eq_filter]
    unfold restO
    refine List.filter_congr fun x _ => ?_
    by_cases e : x = m.Number <;> simp [eqK, e]
  rw [h2]
  exact (List.perm_cons_erase hm).symm
theorem refF_eq (l : List Int) (hn : l.Nodup) (h0 : (0 : Int) ∉ l) : ∀ (ms : List Shift) (o : List Int), o.Perm l → refF l o ms = appF o ms
  | [], _, _ => rfl
  | m :: r, o, h => by
    rw [refF, appF, appOK_perm h]
    split
    · rename_i ha
      have ha' : appOK o m = 0 := by rw [appOK_perm h]; exact ha
      have hno : o.Nodup := h.nodup_iff.2 hn
      rw [refStep_eq o m hno (fun h' => h0 (h.mem_iff.1 h')) ha', refF_eq l hn h0 r _ ((appStep_perm o m hno (appOK_zero.1 ha').1).trans h)]
    · rfl
theorem refApply_eq (l : List Int) (ms : List Shift) : refApply l ms = applyL l ms := by
  unfold refApply applyL
  split
  · rename_i h
    obtain ⟨h1, h2, h3, h4⟩ := chk_pos h
    rw [refF_eq l h2 (fun h => by have := h4 0 h; omega) ms l (List.Perm.refl _)]
  · rfl
end Go.Sx.T
