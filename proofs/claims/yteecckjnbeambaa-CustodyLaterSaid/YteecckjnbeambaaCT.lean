/- Contracts of functions of the program, each proved by running its code symbolically (CT). -/
import Derived.Test.YteecckjnbeambaaCP
namespace Go.Sx.T
open Go Go.Proofs Go.Sx
set_option maxRecDepth 100000
set_option maxHeartbeats 4000000
set_option linter.unusedVariables false
set_option linter.unusedSimpArgs false
/-! A further move. -/
theorem check_snoc {l : List Move} {m : Move} (hc : checkL l = 0) (hl : l.length < 1024) (hf : formE l m = 0) : checkL (l ++ [m]) = 0 := by
  rw [checkL_iff] at hc ⊢
  refine ⟨by simp; omega, fun k hk => ?_⟩
  by_cases e : k = l.length
  · subst e
    unfold errAt
    rw [List.take_left', getD_append_right _ _ _ (Nat.le_refl _), Nat.sub_self]
    · exact hf
    · rfl
  · have hkl : k < l.length := by simp at hk; omega
    have := hc.2 k hkl
    unfold errAt at this ⊢
    rw [List.take_append_of_le_length (by omega), getD_append_left _ _ _ hkl]
    exact this
theorem days_le_last {l : List Move} {m : Move} (hc : checkL l = 0) (hf : formE l m = 0) : ∀ x ∈ l, x.Day ≤ m.Day := by
  intro x hx
  have h1 := ((formE_zero l m).1 hf).day
  obtain ⟨k, hk, e⟩ := List.mem_iff_getElem.1 hx
  have h2 := days_le hc k (l.length - 1) (by omega) (by omega)
  rw [getD_of_lt l k hk, e] at h2
  rw [← dayL_last l (by omega)] at h2
  omega
theorem where_ok {l : List Move} (hc : checkL l = 0) (b d : Int) : whereL l b d = if okId b = true ∧ okDay d = true then (lastP (untilL l d) b, 0) else (⟨0, 0⟩, 2) := if_neg (by simp [hc])
theorem where_later {l : List Move} {m : Move} (hc : checkL l = 0) (hl : l.length ≤ 60) (hf : formE l m = 0) (b d : Int) :
    (whereL (l ++ [m]) b d).2 = (whereL l b d).2 ∧ ((whereL l b d).2 = 0 → if b = m.Box ∧ m.Day ≤ d then (whereL (l ++ [m]) b d).1 = m.To else (whereL (l ++ [m]) b d).1 = (whereL l b d).1) := by
  have hn := check_snoc hc (by omega) hf
  rw [where_ok hc, where_ok hn]
  by_cases h : okId b = true ∧ okDay d = true
  · rw [if_pos h, if_pos h]
    refine ⟨rfl, fun _ => ?_⟩
    simp only
    by_cases hd : m.Day ≤ d
    · have e1 : untilL l d = l := until_all l d fun x hx => Int.le_trans (days_le_last hc hf x hx) hd
      have e2 : untilL (l ++ [m]) d = l ++ [m] := until_all _ d fun x hx => by
        rcases List.mem_append.1 hx with hx | hx
        · exact Int.le_trans (days_le_last hc hf x hx) hd
        · simp at hx; subst hx; exact hd
      rw [e1, e2, lastP_snoc]
      by_cases hb : b = m.Box
      · rw [if_pos ⟨hb, hd⟩, if_pos hb.symm]
      · rw [if_neg (fun h => hb h.1), if_neg (fun h => hb h.symm)]
    · rw [if_neg (fun h => hd h.2), until_snoc_gt l m d (by omega)]
  · rw [if_neg h, if_neg h]
    exact ⟨rfl, fun h => (by cases h)⟩
theorem append_err {l : List Move} {m : Move} (h : (appendL l m).2 ≠ 0) : (appendL l m).1 = [] := by
  unfold appendL at h ⊢
  split
  · rfl
  · split
    · rfl
    · split
      · rfl
      · rename_i h1 h2 h3
        rw [if_neg h1, if_neg h2, if_neg h3] at h
        exact (h rfl).elim
theorem append_ok {l : List Move} {m : Move} (h : (appendL l m).2 = 0) : checkL l = 0 ∧ formE l m = 0 ∧ appendL l m = (l ++ [m], 0) := by
  unfold appendL at h ⊢
  split at h
  · cases h
  · split at h
    · cases h
    · split at h
      · rename_i h3; exact (h3 h).elim
      · rename_i h1 h2 h3
        rw [if_neg h1, if_neg h2, if_neg h3]
        exact ⟨by simpa using h1, by simpa using h3, rfl⟩
theorem s7 (l : List Move) (m : Move) (a b : Int) : Spec Try.prog 7 [moves l, m.sv, .agg [.int .i64 a, .int .i64 b]] (.bool true) := by
  refine spec_of_good mixed Try.func7 F7_ok (by kernel_rfl) ?_
  have heq := eq24
  refine good_run 10 (obs := []) (by kernel_rfl) trivial ?_
  refine good_call (c := True) (by kernel_rfl) (fun _ => SVles.refl _) (fun _ => s10) (by kernel_rfl) ?_
  refine good_run 3 (obs := []) (by kernel_rfl) trivial ?_
  refine good_cond false (by kernel_rfl) (fun h => nomatch h) (fun _ => ?_)
  refine good_run 5 (obs := []) (by kernel_rfl) trivial ?_
  refine good_call (c := True) (by kernel_rfl) (fun _ => SVles.refl _) (fun _ => s11 (l)) (by kernel_rfl) ?_
  refine good_run 3 (obs := []) (by kernel_rfl) trivial ?_
  refine good_cond (!decide ((↑(List.length l) : Int) ≤ (60 : Int))) (by kernel_rfl) (fun hc1 => ?_) (fun hc1 => ?_)
  · refine good_run 7 (obs := []) (by kernel_rfl) trivial ?_
    refine good_fin [true = true] (by kernel_rfl) ⟨rfl, trivial⟩
  · have hfew : l.length ≤ 60 := by simp at hc1; omega
    refine good_run 4 (obs := []) (by kernel_rfl) trivial ?_
    refine good_call (c := True) (by kernel_rfl) (fun _ => SVles.refl _) (fun _ => SpecOwn.spec (s13 (List.length l) (fun i => Move.cells (List.getD l i default)) (by (first | omega | assumption | exact ⟨rfl, trivial⟩ | simp only [AllP, inK_iff, roomOK_iff, decide_eq_true_eq, Bool.and_eq_true, Bool.or_eq_true, Bool.not_eq_true', decide_eq_false_iff_not, and_true, true_and]; (first | omega | (and_intros <;> intros <;> (try and_intros) <;> first | omega | assumption | exact trivial)))))) (by kernel_rfl) ?_
    refine good_run 1 (obs := [True → (0 : Nat) + (6 : Nat) ≤ (6 : Nat)]) (by kernel_rfl) (by (first | omega | assumption | exact ⟨rfl, trivial⟩ | simp only [AllP, inK_iff, roomOK_iff, decide_eq_true_eq, Bool.and_eq_true, Bool.or_eq_true, Bool.not_eq_true', decide_eq_false_iff_not, and_true, true_and]; (first | omega | (and_intros <;> intros <;> (try and_intros) <;> first | omega | assumption | exact trivial)))) ?_
    refine good_call (c := True) (by kernel_rfl) (fun _ => SVles.refl _) (fun _ => s12 (l) (m)) (by kernel_rfl) ?_
    refine good_run 14 (obs := []) (by kernel_rfl) trivial ?_
    refine good_cond (!decide ((appendL l m).snd = (0 : Int))) (by kernel_rfl) (fun hc2 => ?_) (fun hc2 => ?_)
    · have e := append_err (l := l) (m := m) (by simpa using hc2)
      rw [e]
      refine good_run 10 (obs := []) (by kernel_rfl) trivial ?_
      refine good_fin [decide ((0 : Int) = (0 : Int)) = true] (by kernel_rfl) ⟨(by rfl), trivial⟩
    · obtain ⟨k1, k2, k3⟩ := append_ok (l := l) (m := m) (by simpa using hc2)
      obtain ⟨w1, w2⟩ := where_later k1 hfew k2 a b
      rw [k3]
      show Good _ _ _
      have hnl : (l ++ [m]).length ≤ 61 := by simp; omega
      refine good_run 5 (obs := []) (by kernel_rfl) trivial ?_
      refine good_set [0, 4, 5, 7, 9, 10, 30, 31, 32, 33, 34, 35, 36, 37, 38, 39, 54, 55, 66, 67, 68, 69, 70, 80, 81, 82, 83, 84, 85] [(1, [SV.lst (6 : Nat) (List.length l) fun i => Move.cells (List.getD l i default)], SV.lst (6 : Nat) (List.length l) fun i => Move.cells (List.getD l i default)), (6, [moves l, SV.int IntKind.i64 a, SV.int IntKind.i64 b], SV.tup [Place.sv (whereL l a b).fst, SV.int IntKind.i64 (whereL l a b).snd])] [SVles [SV.lst (6 : Nat) (List.length l) fun i => Move.cells (List.getD l i default)] [SV.lst (6 : Nat) (List.length l) fun i => Move.cells (List.getD l i default)], Spec Try.prog (13 : FuncId) [SV.lst (6 : Nat) (List.length l) fun i => Move.cells (List.getD l i default)] (SV.lst (6 : Nat) (List.length l) fun i => Move.cells (List.getD l i default)), (0 : Int) ≤ (0 : Int) ∧ (0 : Int) < (2 : Int), (0 : Int) ≤ (1 : Int) ∧ (1 : Int) < (2 : Int), SVles [SV.lst (6 : Nat) (List.length l) fun i => Move.cells (List.getD l i default), SV.int IntKind.i64 a, SV.int IntKind.i64 b] [SV.lst (6 : Nat) (List.length l) fun i => Move.cells (List.getD l i default), SV.int IntKind.i64 a, SV.int IntKind.i64 b], Spec Try.prog (18 : FuncId) [SV.lst (6 : Nat) (List.length l) fun i => Move.cells (List.getD l i default), SV.int IntKind.i64 a, SV.int IntKind.i64 b] (SV.tup [Place.sv (whereL l a b).fst, SV.int IntKind.i64 (whereL l a b).snd]), (2 : Nat) = (2 : Nat) ∧ (0 : Nat) + (2 : Nat) ≤ (2 : Nat)] (by kernel_rfl) ⟨SVles.refl _, SpecOwn.spec (s13 (List.length l) (fun i => Move.cells (List.getD l i default)) (by (first | omega | assumption | exact ⟨rfl, trivial⟩ | simp only [AllP, inK_iff, roomOK_iff, decide_eq_true_eq, Bool.and_eq_true, Bool.or_eq_true, Bool.not_eq_true', decide_eq_false_iff_not, and_true, true_and]; (first | omega | (and_intros <;> intros <;> (try and_intros) <;> first | omega | assumption | exact trivial))))), (by (first | omega | assumption | exact ⟨rfl, trivial⟩ | simp only [AllP, inK_iff, roomOK_iff, decide_eq_true_eq, Bool.and_eq_true, Bool.or_eq_true, Bool.not_eq_true', decide_eq_false_iff_not, and_true, true_and]; (first | omega | (and_intros <;> intros <;> (try and_intros) <;> first | omega | assumption | exact trivial)))), (by (first | omega | assumption | exact ⟨rfl, trivial⟩ | simp only [AllP, inK_iff, roomOK_iff, decide_eq_true_eq, Bool.and_eq_true, Bool.or_eq_true, Bool.not_eq_true', decide_eq_false_iff_not, and_true, true_and]; (first | omega | (and_intros <;> intros <;> (try and_intros) <;> first | omega | assumption | exact trivial)))), SVles.refl _, s18 (l) (a) (b), (by (first | omega | assumption | exact ⟨rfl, trivial⟩ | simp only [AllP, inK_iff, roomOK_iff, decide_eq_true_eq, Bool.and_eq_true, Bool.or_eq_true, Bool.not_eq_true', decide_eq_false_iff_not, and_true, true_and]; (first | omega | (and_intros <;> intros <;> (try and_intros) <;> first | omega | assumption | exact trivial)))), trivial⟩ ?_
      refine good_run 5 (obs := []) (by kernel_rfl) trivial ?_
      refine good_set [0, 4, 5, 7, 9, 10, 11, 12, 40, 41, 42, 43, 44, 45, 46, 47, 48, 49, 54, 55, 66, 67, 68, 69, 70, 80, 81, 82, 83, 84, 85] [(1, [SV.lst (6 : Nat) (List.length (l ++ [m], (0 : Int)).fst) fun i => Move.cells (List.getD (l ++ [m], (0 : Int)).fst i default)], SV.lst (6 : Nat) (List.length (l ++ [m], (0 : Int)).fst) fun i => Move.cells (List.getD (l ++ [m], (0 : Int)).fst i default)), (6, [moves (l ++ [m], (0 : Int)).fst, SV.int IntKind.i64 a, SV.int IntKind.i64 b], SV.tup [Place.sv (whereL (l ++ [m], (0 : Int)).fst a b).fst, SV.int IntKind.i64 (whereL (l ++ [m], (0 : Int)).fst a b).snd])] [SVles [SV.lst (6 : Nat) (List.length (l ++ [m], (0 : Int)).fst) fun i => Move.cells (List.getD (l ++ [m], (0 : Int)).fst i default)] [SV.lst (6 : Nat) (List.length (l ++ [m], (0 : Int)).fst) fun i => Move.cells (List.getD (l ++ [m], (0 : Int)).fst i default)], Spec Try.prog (13 : FuncId) [SV.lst (6 : Nat) (List.length (l ++ [m], (0 : Int)).fst) fun i => Move.cells (List.getD (l ++ [m], (0 : Int)).fst i default)] (SV.lst (6 : Nat) (List.length (l ++ [m], (0 : Int)).fst) fun i => Move.cells (List.getD (l ++ [m], (0 : Int)).fst i default)), (0 : Int) ≤ (0 : Int) ∧ (0 : Int) < (2 : Int), (0 : Int) ≤ (1 : Int) ∧ (1 : Int) < (2 : Int), SVles [SV.lst (6 : Nat) (List.length (l ++ [m], (0 : Int)).fst) fun i => Move.cells (List.getD (l ++ [m], (0 : Int)).fst i default), SV.int IntKind.i64 a, SV.int IntKind.i64 b] [SV.lst (6 : Nat) (List.length (l ++ [m], (0 : Int)).fst) fun i => Move.cells (List.getD (l ++ [m], (0 : Int)).fst i default), SV.int IntKind.i64 a, SV.int IntKind.i64 b], Spec Try.prog (18 : FuncId) [SV.lst (6 : Nat) (List.length (l ++ [m], (0 : Int)).fst) fun i => Move.cells (List.getD (l ++ [m], (0 : Int)).fst i default), SV.int IntKind.i64 a, SV.int IntKind.i64 b] (SV.tup [Place.sv (whereL (l ++ [m], (0 : Int)).fst a b).fst, SV.int IntKind.i64 (whereL (l ++ [m], (0 : Int)).fst a b).snd]), (2 : Nat) = (2 : Nat) ∧ (0 : Nat) + (2 : Nat) ≤ (2 : Nat)] (by kernel_rfl) ⟨SVles.refl _, SpecOwn.spec (s13 (List.length (l ++ [m], (0 : Int)).fst) (fun i => Move.cells (List.getD (l ++ [m], (0 : Int)).fst i default)) (by (first | omega | assumption | exact ⟨rfl, trivial⟩ | simp only [AllP, inK_iff, roomOK_iff, decide_eq_true_eq, Bool.and_eq_true, Bool.or_eq_true, Bool.not_eq_true', decide_eq_false_iff_not, and_true, true_and]; (first | omega | (and_intros <;> intros <;> (try and_intros) <;> first | omega | assumption | exact trivial))))), (by (first | omega | assumption | exact ⟨rfl, trivial⟩ | simp only [AllP, inK_iff, roomOK_iff, decide_eq_true_eq, Bool.and_eq_true, Bool.or_eq_true, Bool.not_eq_true', decide_eq_false_iff_not, and_true, true_and]; (first | omega | (and_intros <;> intros <;> (try and_intros) <;> first | omega | assumption | exact trivial)))), (by (first | omega | assumption | exact ⟨rfl, trivial⟩ | simp only [AllP, inK_iff, roomOK_iff, decide_eq_true_eq, Bool.and_eq_true, Bool.or_eq_true, Bool.not_eq_true', decide_eq_false_iff_not, and_true, true_and]; (first | omega | (and_intros <;> intros <;> (try and_intros) <;> first | omega | assumption | exact trivial)))), SVles.refl _, s18 ((l ++ [m], (0 : Int)).fst) (a) (b), (by (first | omega | assumption | exact ⟨rfl, trivial⟩ | simp only [AllP, inK_iff, roomOK_iff, decide_eq_true_eq, Bool.and_eq_true, Bool.or_eq_true, Bool.not_eq_true', decide_eq_false_iff_not, and_true, true_and]; (first | omega | (and_intros <;> intros <;> (try and_intros) <;> first | omega | assumption | exact trivial)))), trivial⟩ ?_
      refine good_run 13 (obs := []) (by kernel_rfl) trivial ?_
      refine good_cond (!decide ((whereL l a b).snd = (whereL (l ++ [m], (0 : Int)).fst a b).snd) || !decide ((whereL l a b).snd = (0 : Int))) (by kernel_rfl) (fun hc3 => ?_) (fun hc3 => ?_)
      · refine good_run 10 (obs := []) (by kernel_rfl) trivial ?_
        refine good_fin [decide ((whereL l a b).snd = (whereL (l ++ [m], (0 : Int)).fst a b).snd) = true] (by kernel_rfl) ⟨?_, trivial⟩
        simp [w1]
      · simp only [Bool.or_eq_false_iff, Bool.not_eq_false', decide_eq_true_eq] at hc3
        have w3 := w2 hc3.2
        refine good_run 18 (obs := [(0 : Int) ≤ (0 : Int) ∧ (0 : Int) < (2 : Int), (!decide (a = m.Box)) = false ∧ True → (0 : Int) ≤ (1 : Int) ∧ (1 : Int) < (2 : Int)]) (by kernel_rfl) (by (first | omega | assumption | exact ⟨rfl, trivial⟩ | simp only [AllP, inK_iff, roomOK_iff, decide_eq_true_eq, Bool.and_eq_true, Bool.or_eq_true, Bool.not_eq_true', decide_eq_false_iff_not, and_true, true_and]; (first | omega | (and_intros <;> intros <;> (try and_intros) <;> first | omega | assumption | exact trivial)))) ?_
        refine good_cond (!decide (a = m.Box) || decide (b < m.Day)) (by kernel_rfl) (fun hc4 => ?_) (fun hc4 => ?_)
        · simp only [Bool.or_eq_true, Bool.not_eq_true', decide_eq_false_iff_not, decide_eq_true_eq] at hc4
          rw [if_neg (fun h => hc4.elim (fun h1 => h1 h.1) (fun h1 => by omega))] at w3
          refine good_run 10 (obs := [(0 : Nat) + (2 : Nat) ≤ (2 : Nat), (0 : Nat) + (2 : Nat) ≤ (2 : Nat), EqOK Try.prog (24 : TypeId) (2 : Nat) ∧ (2 : Nat) = (2 : Nat)]) (by kernel_rfl) (by (first | omega | assumption | exact ⟨rfl, trivial⟩ | simp only [AllP, inK_iff, roomOK_iff, decide_eq_true_eq, Bool.and_eq_true, Bool.or_eq_true, Bool.not_eq_true', decide_eq_false_iff_not, and_true, true_and]; (first | omega | (and_intros <;> intros <;> (try and_intros) <;> first | omega | assumption | exact trivial)))) ?_
          refine good_fin [(false ^^ decide ([(whereL l a b).fst.Kind, (whereL l a b).fst.Of] = [(whereL (l ++ [m], (0 : Int)).fst a b).fst.Kind, (whereL (l ++ [m], (0 : Int)).fst a b).fst.Of])) = true] (by kernel_rfl) ⟨?_, trivial⟩
          rw [w3]
          simp
        · simp only [Bool.or_eq_false_iff, Bool.not_eq_false', decide_eq_true_eq, decide_eq_false_iff_not] at hc4
          rw [if_pos ⟨hc4.1, by omega⟩] at w3
          refine good_run 19 (obs := [(0 : Nat) + (2 : Nat) ≤ (2 : Nat), (4 : Nat) + (2 : Nat) ≤ (6 : Nat), EqOK Try.prog (24 : TypeId) (2 : Nat) ∧ (2 : Nat) = (2 : Nat), (false ^^ decide ([(whereL (l ++ [m], (0 : Int)).fst a b).fst.Kind, (whereL (l ++ [m], (0 : Int)).fst a b).fst.Of] = [m.To.Kind, m.To.Of])) = true ∧ True → InK IntKind.i64 ((↑(List.length l) : Int) + (1 : Int))]) (by kernel_rfl) (by (first | omega | assumption | exact ⟨rfl, trivial⟩ | simp only [AllP, inK_iff, roomOK_iff, decide_eq_true_eq, Bool.and_eq_true, Bool.or_eq_true, Bool.not_eq_true', decide_eq_false_iff_not, and_true, true_and]; (first | omega | (and_intros <;> intros <;> (try and_intros) <;> first | omega | assumption | exact trivial)))) ?_
          refine good_fin [((false ^^ decide ([(whereL (l ++ [m], (0 : Int)).fst a b).fst.Kind, (whereL (l ++ [m], (0 : Int)).fst a b).fst.Of] = [m.To.Kind, m.To.Of])) && decide ((↑(List.length (l ++ [m], (0 : Int)).fst) : Int) = (↑(List.length l) : Int) + (1 : Int))) = true] (by kernel_rfl) ⟨?_, trivial⟩
          rw [w3]
          simp
end Go.Sx.T
