/- Contracts of functions of the program, each proved by running its code symbolically (BM). -/
import Derived.Test.YtffgpipdiinkcaaBK
namespace Go.Sx.T
open Go Go.Proofs Go.Sx
set_option maxRecDepth 100000
set_option maxHeartbeats 4000000
set_option linter.unusedVariables false
set_option linter.unusedSimpArgs false
def Box.next (b : Box) (id : Int) (cs : List Content) : Box := ⟨id, b.Width, b.Room, b.Climate, cs⟩
def splitB (l : List Box) (id at' next : Int) : List Box × Int :=
  if check l ≠ 0 then ([], 1) else if findI l (fun b => decide (b.ID = id)) < 0 then ([], 7) else
  let i := (findI l fun b => decide (b.ID = id)).toNat
  let b := l.getD i default
  if (!inB at' 0 b.Contents.length || !inB next 1 1073741824) = true then ([], 2) else if next ≤ (l.getD (l.length - 1) default).ID then ([], 5) else if 128 ≤ l.length then ([], 12)
  else (withC l i (b.Contents.take at'.toNat) ++ [b.next next (b.Contents.drop at'.toNat)], 0)
theorem conts_sub (cs : List Content) (a n : Nat) (hn : a + n ≤ cs.length) (f : Nat → Nat) (hf : ∀ i, i < n → f i = a + i) : SVle (.lst 2 n fun i => Content.cells (cs.getD (f i) default)) (conts ((cs.drop a).take n)) := by
  refine svle_lst (by rw [List.length_take, List.length_drop]; omega) fun i hi => SVles.of_eq ?_
  rw [getD_take _ _ _ hi, getD_drop, hf i hi]
theorem split_row (l : List Box) (i m : Nat) (next : Int) (hi : i < l.length) (hm : m ≤ (l.getD i default).Contents.length) (n1 n2 : Nat) (g1 g2 : Nat → List SV) (hn : n1 = m) (hn2 : n2 = (l.getD i default).Contents.length - m)
    (h1 : ∀ k, g1 k = Content.cells ((l.getD i default).Contents.getD k default)) (h2 : ∀ k, g2 k = Content.cells ((l.getD i default).Contents.getD (m + k) default)) :
    SVle (.lst 5 (l.length + 1) (joinGet l.length (fun j => if j = i then lay (l.getD i default).cells (0 + 4) [SV.lst 2 n1 g1] else (l.getD j default).cells)
      (cutRows 5 [SV.int IntKind.i64 next, SV.int IntKind.i64 (l.getD i default).Width, SV.int IntKind.i64 (l.getD i default).Room, SV.int IntKind.i64 (l.getD i default).Climate, SV.lst 2 n2 g2])))
      (boxes (withC l i ((l.getD i default).Contents.take m) ++ [(l.getD i default).next next ((l.getD i default).Contents.drop m)])) := by
  obtain rfl : g1 = fun k => Content.cells ((l.getD i default).Contents.getD k default) := funext h1
  obtain rfl : g2 = fun k => Content.cells ((l.getD i default).Contents.getD (m + k) default) := funext h2
  subst hn hn2
  refine svle_lst (by rw [List.length_append, withC_length]; rfl) fun j hj => ?_
  unfold joinGet
  by_cases hjl : j < l.length
  · rw [if_pos hjl]
    have e : (withC l i ((l.getD i default).Contents.take n1) ++ [(l.getD i default).next next ((l.getD i default).Contents.drop n1)]).getD j default = (withC l i ((l.getD i default).Contents.take n1)).getD j default := by
      exact getD_append_left _ _ _ (by rw [withC_length]; exact hjl)
    rw [e]
    unfold withC
    rw [getD_set _ _ _ _ hi]
    show SVles (if j = i then _ else _) _
    by_cases hji : j = i
    · rw [if_pos hji, if_pos hji]
      refine ⟨SVle.refl _, SVle.refl _, SVle.refl _, SVle.refl _, ?_, trivial⟩
      have := conts_sub (l.getD i default).Contents 0 n1 (by omega) (fun i => i) (fun i _ => by omega)
      rwa [List.drop_zero] at this
    · rw [if_neg hji, if_neg hji]; exact SVles.refl _
  · rw [if_neg hjl]
    have hj' : j = l.length := by omega
    subst hj'
    have e : (withC l i ((l.getD i default).Contents.take n1) ++ [(l.getD i default).next next ((l.getD i default).Contents.drop n1)]).getD l.length default = (l.getD i default).next next ((l.getD i default).Contents.drop n1) := by
      rw [List.getD_eq_getElem?_getD, List.getElem?_append_right (by rw [withC_length]; exact Nat.le_refl _), withC_length, Nat.sub_self]; rfl
    rw [e, Nat.sub_self]
    refine ⟨SVle.refl _, SVle.refl _, SVle.refl _, SVle.refl _, ?_, trivial⟩
    have := conts_sub (l.getD i default).Contents n1 ((l.getD i default).Contents.length - n1) (by omega) (fun i => n1 + i) (fun i _ => rfl)
    rwa [List.take_of_length_le (by rw [List.length_drop]; exact Nat.le_refl _)] at this
theorem s19 (l : List Box) (id at' next : Int) (hl : ∀ b ∈ l, b.Contents.length ≤ 100000) : Spec Try.prog 19 [boxes l, .int .i64 id, .int .i64 at', .int .i64 next] (.tup [boxes (splitB l id at' next).1, .int .i64 (splitB l id at' next).2]) := by
  refine spec_of_good mixed Try.func19 F19_ok (by kernel_rfl) ?_
  have hf := findI_cases l (fun b => decide (b.ID = id))
  refine good_run 10 (obs := []) (by kernel_rfl) trivial ?_
  refine good_call (c := True) (by kernel_rfl) (fun _ => SVles.refl _) (fun _ => s17 (l)) (by kernel_rfl) ?_
  refine good_run 3 (obs := []) (by kernel_rfl) trivial ?_
  refine good_cond (!decide (check l = (0 : Int))) (by kernel_rfl) (fun hc1 => ?_) (fun hc1 => ?_)
  · simp only [Bool.not_eq_true', decide_eq_false_iff_not] at hc1
    have : splitB l id at' next = ([], 1) := by rw [splitB, if_pos hc1]
    rw [this]
    refine good_run 8 (obs := []) (by kernel_rfl) trivial ?_
    refine good_fin [(0 : Nat) = (0 : Nat), (1 : Int) = (1 : Int)] (by kernel_rfl) ⟨rfl, rfl, trivial⟩
  · simp only [Bool.not_eq_false', decide_eq_true_eq] at hc1
    have hr := check_iff.1 hc1
    have hlen := hr.len
    refine good_run 5 (obs := []) (by kernel_rfl) trivial ?_
    refine good_call (c := True) (by kernel_rfl) (fun _ => SVles.refl _) (fun _ => s37 (l) (id)) (by kernel_rfl) ?_
    refine good_run 12 (obs := []) (by kernel_rfl) trivial ?_
    refine good_cond (decide ((findI l fun b => decide (b.ID = id)) < (0 : Int))) (by kernel_rfl) (fun hc2 => ?_) (fun hc2 => ?_)
    · simp only [decide_eq_true_eq] at hc2
      have : splitB l id at' next = ([], 7) := by rw [splitB, if_neg (fun h => h hc1), if_pos hc2]
      rw [this]
      refine good_run 9 (obs := []) (by kernel_rfl) trivial ?_
      refine good_fin [(0 : Nat) = (0 : Nat), (7 : Int) = (7 : Int)] (by kernel_rfl) ⟨rfl, rfl, trivial⟩
    · simp only [decide_eq_false_iff_not] at hc2
      obtain ⟨i, hi, ei⟩ : ∃ i : Nat, i < l.length ∧ findI l (fun b => decide (b.ID = id)) = i := by
        rcases hf with ⟨e, _⟩ | ⟨k, hk, e, _⟩
        · omega
        · exact ⟨k, hk, e⟩
      have hp : splitB l id at' next = if (!inB at' 0 (l.getD i default).Contents.length || !inB next 1 1073741824) = true then ([], 2) else if next ≤ (l.getD (l.length - 1) default).ID then ([], 5) else if 128 ≤ l.length then ([], 12)
        else (withC l i ((l.getD i default).Contents.take at'.toNat) ++ [(l.getD i default).next next ((l.getD i default).Contents.drop at'.toNat)], 0) := by
        rw [splitB, if_neg (fun h => h hc1), if_neg hc2]
        simp only [ei, Int.toNat_natCast]
      obtain ⟨f1, f2, f3⟩ := fault_zero.1 (hr.fault _ (getD_mem l default i hi))
      have e1 : ((l.length : Int) - 1).toNat = l.length - 1 := by omega
      rw [ei]
      refine good_run 9 (obs := [(5 : Nat) = (5 : Nat) ∧ (0 : Int) ≤ (↑i : Int) ∧ (↑i : Int) < (↑(List.length l) : Int)]) (by kernel_rfl) (by (first | omega | assumption | exact ⟨rfl, trivial⟩ | simp only [AllP, inK_iff, roomOK_iff, decide_eq_true_eq, Bool.and_eq_true, Bool.or_eq_true, Bool.not_eq_true', decide_eq_false_iff_not, and_true, true_and]; (first | omega | (and_intros <;> intros <;> (try and_intros) <;> first | omega | assumption | exact trivial)))) ?_
      refine good_call (c := True) (by kernel_rfl) (fun _ => SVles.refl _) (fun _ => s38 (at') ((0 : Int)) ((↑(List.length (List.getD l i default).Contents) : Int))) (by kernel_rfl) ?_
      refine good_run 4 (obs := []) (by kernel_rfl) trivial ?_
      refine good_call (c := (!inB at' (0 : Int) (↑(List.length (List.getD l i default).Contents) : Int)) = false ∧ True) (by kernel_rfl) (fun _ => SVles.refl _) (fun _ => s38 (next) ((1 : Int)) ((1073741824 : Int))) (by kernel_rfl) ?_
      refine good_run 6 (obs := []) (by kernel_rfl) trivial ?_
      refine good_cond (!inB at' (0 : Int) (↑(List.length (List.getD l i default).Contents) : Int) || !inB next (1 : Int) (1073741824 : Int)) (by kernel_rfl) (fun hc3 => ?_) (fun hc3 => ?_)
      · rw [if_pos hc3] at hp
        rw [hp]
        refine good_run 9 (obs := []) (by kernel_rfl) trivial ?_
        refine good_fin [(0 : Nat) = (0 : Nat), (2 : Int) = (2 : Int)] (by kernel_rfl) ⟨rfl, rfl, trivial⟩
      · rw [if_neg (by rw [hc3]; decide)] at hp
        simp only [Bool.or_eq_false_iff, Bool.not_eq_false'] at hc3
        have hat : 0 ≤ at' ∧ at' ≤ (l.getD i default).Contents.length := by simpa [inB] using hc3.1
        refine good_run 14 (obs := [InK IntKind.i64 ((↑(List.length l) : Int) - (1 : Int)), (5 : Nat) = (5 : Nat) ∧ (0 : Int) ≤ (↑(List.length l) : Int) - (1 : Int) ∧ (↑(List.length l) : Int) - (1 : Int) < (↑(List.length l) : Int)]) (by kernel_rfl) (by (first | omega | assumption | exact ⟨rfl, trivial⟩ | simp only [AllP, inK_iff, roomOK_iff, decide_eq_true_eq, Bool.and_eq_true, Bool.or_eq_true, Bool.not_eq_true', decide_eq_false_iff_not, and_true, true_and]; (first | omega | (and_intros <;> intros <;> (try and_intros) <;> first | omega | assumption | exact trivial)))) ?_
        refine good_cond (decide (next ≤ (List.getD l (Int.toNat ((↑(List.length l) : Int) - (1 : Int))) default).ID)) (by kernel_rfl) (fun hc4 => ?_) (fun hc4 => ?_)
        · rw [decide_eq_true_eq, e1] at hc4
          rw [if_pos hc4] at hp
          rw [hp]
          refine good_run 9 (obs := []) (by kernel_rfl) trivial ?_
          refine good_fin [(0 : Nat) = (0 : Nat), (5 : Int) = (5 : Int)] (by kernel_rfl) ⟨rfl, rfl, trivial⟩
        · rw [decide_eq_false_iff_not, e1] at hc4
          rw [if_neg hc4] at hp
          refine good_run 8 (obs := []) (by kernel_rfl) trivial ?_
          refine good_cond (decide ((128 : Int) ≤ (↑(List.length l) : Int))) (by kernel_rfl) (fun hc5 => ?_) (fun hc5 => ?_)
          · simp only [decide_eq_true_eq] at hc5
            rw [if_pos (by omega)] at hp
            rw [hp]
            refine good_run 9 (obs := []) (by kernel_rfl) trivial ?_
            refine good_fin [(0 : Nat) = (0 : Nat), (12 : Int) = (12 : Int)] (by kernel_rfl) ⟨rfl, rfl, trivial⟩
          · simp only [decide_eq_false_iff_not] at hc5
            rw [if_neg (by omega)] at hp
            rw [hp]
            refine good_run 5 (obs := []) (by kernel_rfl) trivial ?_
            refine good_own (c := True) (by kernel_rfl) (by kernel_rfl) (SVles.refl _) (s39 (l) (by (first | omega | assumption | exact ⟨rfl, trivial⟩ | simp only [AllP, inK_iff, roomOK_iff, decide_eq_true_eq, Bool.and_eq_true, Bool.or_eq_true, Bool.not_eq_true', decide_eq_false_iff_not, and_true, true_and]; (first | omega | (and_intros <;> intros <;> (try and_intros) <;> first | omega | assumption | exact trivial)))) (by (first | omega | assumption | exact ⟨rfl, trivial⟩ | simp only [AllP, inK_iff, roomOK_iff, decide_eq_true_eq, Bool.and_eq_true, Bool.or_eq_true, Bool.not_eq_true', decide_eq_false_iff_not, and_true, true_and]; (first | omega | (and_intros <;> intros <;> (try and_intros) <;> first | omega | assumption | exact trivial))))) ?_
            refine good_run 23 (obs := [(5 : Nat) = (5 : Nat) ∧ (0 : Int) ≤ (↑i : Int) ∧ (↑i : Int) < (↑(List.length l) : Int), (0 : Nat) + (5 : Nat) ≤ (5 : Nat), (5 : Nat) = (5 : Nat) ∧ (0 : Nat) + (5 : Nat) ≤ (5 : Nat), (5 : Nat) = (5 : Nat) ∧ (0 : Int) ≤ (↑i : Int) ∧ (↑i : Int) < (↑(List.length l) : Int), (2 : Nat) = (2 : Nat) ∧ (0 : Int) ≤ at' ∧ at' ≤ (↑(List.length (List.getD l i default).Contents) : Int) ∧ (↑(List.length (List.getD l i default).Contents) : Int) ≤ (↑(List.length (List.getD l i default).Contents) : Int)]) (by kernel_rfl) (by (first | omega | assumption | exact ⟨rfl, trivial⟩ | simp only [AllP, inK_iff, roomOK_iff, decide_eq_true_eq, Bool.and_eq_true, Bool.or_eq_true, Bool.not_eq_true', decide_eq_false_iff_not, and_true, true_and]; (first | omega | (and_intros <;> intros <;> (try and_intros) <;> first | omega | assumption | exact trivial)))) ?_
            refine good_own (c := True) (by kernel_rfl) (by kernel_rfl) (SVles.refl _) (s40 (List.length (List.getD l i default).Contents - Int.toNat at') (fun i_1 => (fun i_2 => Content.cells (List.getD (List.getD l i default).Contents i_2 default)) (Int.toNat at' + i_1)) (by (first | omega | assumption | exact ⟨rfl, trivial⟩ | simp only [AllP, inK_iff, roomOK_iff, decide_eq_true_eq, Bool.and_eq_true, Bool.or_eq_true, Bool.not_eq_true', decide_eq_false_iff_not, and_true, true_and]; (first | omega | (and_intros <;> intros <;> (try and_intros) <;> first | omega | assumption | exact trivial))))) ?_
            refine good_run 17 (obs := [(1 : Nat) = (1 : Nat) ∧ (0 : Nat) + (1 : Nat) ≤ (5 : Nat), (1 : Nat) = (1 : Nat) ∧ (4 : Nat) + (1 : Nat) ≤ (5 : Nat), (5 : Nat) = (5 : Nat) ∧ (0 : Int) ≤ (↑i : Int) ∧ (↑i : Int) < (↑(List.length l) : Int), (2 : Nat) = (2 : Nat) ∧ (0 : Int) ≤ (0 : Int) ∧ (0 : Int) ≤ at' ∧ at' ≤ (↑(List.length (List.getD l i default).Contents) : Int)]) (by kernel_rfl) (by (first | omega | assumption | exact ⟨rfl, trivial⟩ | simp only [AllP, inK_iff, roomOK_iff, decide_eq_true_eq, Bool.and_eq_true, Bool.or_eq_true, Bool.not_eq_true', decide_eq_false_iff_not, and_true, true_and]; (first | omega | (and_intros <;> intros <;> (try and_intros) <;> first | omega | assumption | exact trivial)))) ?_
            refine good_own (c := True) (by kernel_rfl) (by kernel_rfl) (SVles.refl _) (s40 (Int.toNat at' - (0 : Nat)) (fun i_1 => (fun i_2 => Content.cells (List.getD (List.getD l i default).Contents i_2 default)) (Int.toNat (0 : Int) + i_1)) (by (first | omega | assumption | exact ⟨rfl, trivial⟩ | simp only [AllP, inK_iff, roomOK_iff, decide_eq_true_eq, Bool.and_eq_true, Bool.or_eq_true, Bool.not_eq_true', decide_eq_false_iff_not, and_true, true_and]; (first | omega | (and_intros <;> intros <;> (try and_intros) <;> first | omega | assumption | exact trivial))))) ?_
            refine good_run 16 (obs := [(5 : Nat) = (5 : Nat) ∧ (0 : Int) ≤ (↑i : Int) ∧ (↑i : Int) < (↑(List.length l) : Int), (1 : Nat) = (1 : Nat) ∧ (4 : Nat) + (1 : Nat) ≤ (5 : Nat), (0 : Nat) + (5 : Nat) ≤ (5 : Nat), (27 : Nat) = (27 : Nat) ∧ (5 : Nat) = (5 : Nat) ∧ (5 : Nat) = (5 : Nat) ∧ roomOK (List.length l + (1 : Nat)) (56 : Nat)]) (by kernel_rfl) (by (first | omega | assumption | exact ⟨rfl, trivial⟩ | simp only [AllP, inK_iff, roomOK_iff, decide_eq_true_eq, Bool.and_eq_true, Bool.or_eq_true, Bool.not_eq_true', decide_eq_false_iff_not, and_true, true_and]; (first | omega | (and_intros <;> intros <;> (try and_intros) <;> first | omega | assumption | exact trivial)))) ?_
            refine good_finW (SV.tup [SV.lst (5 : Nat) (List.length l + (1 : Nat)) (joinGet (List.length l) (fun j => if j = i then lay ((fun i => Box.cells (List.getD l i default)) i) (4 : Nat) [SV.lst (2 : Nat) (Int.toNat at' - (0 : Nat)) fun i_1 => (fun i_2 => Content.cells (List.getD (List.getD l i default).Contents i_2 default)) (Int.toNat (0 : Int) + i_1)] else (fun i => Box.cells (List.getD l i default)) j) (cutRows (5 : Nat) [SV.int IntKind.i64 next, SV.int IntKind.i64 (List.getD l i default).Width, SV.int IntKind.i64 (List.getD l i default).Room, SV.int IntKind.i64 (List.getD l i default).Climate, SV.lst (2 : Nat) (List.length (List.getD l i default).Contents - Int.toNat at') fun i_1 => (fun i_2 => Content.cells (List.getD (List.getD l i default).Contents i_2 default)) (Int.toNat at' + i_1)])), SV.int IntKind.i64 (0 : Int)]) (by kernel_rfl) ?_
            exact svle_tup ⟨split_row l i at'.toNat next hi (by omega) _ _ _ _ (by omega) rfl (fun k => by show Content.cells (List.getD _ (Int.toNat 0 + k) _) = _; rw [show Int.toNat 0 + k = k from Nat.zero_add k]) (fun _ => rfl), SVle.refl _, trivial⟩
theorem s20 (l : List Box) (id at' next : Int) (hl : ∀ b ∈ l, b.Contents.length ≤ 100000) : Spec Try.prog 20 [boxes l, .int .i64 id, .int .i64 at', .int .i64 next] (.tup [boxes (splitB l id at' next).1, .int .i64 (splitB l id at' next).2]) := by
  refine spec_of_good mixed Try.func20 F20_ok (by kernel_rfl) ?_
  have hf := findI_cases l (fun b => decide (b.ID = id))
  refine good_run 10 (obs := []) (by kernel_rfl) trivial ?_
  refine good_call (c := True) (by kernel_rfl) (fun _ => SVles.refl _) (fun _ => s18 (l)) (by kernel_rfl) ?_
  refine good_run 3 (obs := []) (by kernel_rfl) trivial ?_
  refine good_cond (!decide (check l = (0 : Int))) (by kernel_rfl) (fun hc1 => ?_) (fun hc1 => ?_)
  · simp only [Bool.not_eq_true', decide_eq_false_iff_not] at hc1
    have : splitB l id at' next = ([], 1) := by rw [splitB, if_pos hc1]
    rw [this]
    refine good_run 8 (obs := []) (by kernel_rfl) trivial ?_
    refine good_fin [(0 : Nat) = (0 : Nat), (1 : Int) = (1 : Int)] (by kernel_rfl) ⟨rfl, rfl, trivial⟩
  · simp only [Bool.not_eq_false', decide_eq_true_eq] at hc1
    have hr := check_iff.1 hc1
    have hlen := hr.len
    refine good_run 5 (obs := []) (by kernel_rfl) trivial ?_
    refine good_call (c := True) (by kernel_rfl) (fun _ => SVles.refl _) (fun _ => s41 (l) (id)) (by kernel_rfl) ?_
    refine good_run 10 (obs := []) (by kernel_rfl) trivial ?_
    refine good_cond (decide ((findI l fun b => decide (b.ID = id)) < (0 : Int))) (by kernel_rfl) (fun hc2 => ?_) (fun hc2 => ?_)
    · simp only [decide_eq_true_eq] at hc2
      have : splitB l id at' next = ([], 7) := by rw [splitB, if_neg (fun h => h hc1), if_pos hc2]
      rw [this]
      refine good_run 8 (obs := []) (by kernel_rfl) trivial ?_
      refine good_fin [(0 : Nat) = (0 : Nat), (7 : Int) = (7 : Int)] (by kernel_rfl) ⟨rfl, rfl, trivial⟩
    · simp only [decide_eq_false_iff_not] at hc2
      obtain ⟨i, hi, ei⟩ : ∃ i : Nat, i < l.length ∧ findI l (fun b => decide (b.ID = id)) = i := by
        rcases hf with ⟨e, _⟩ | ⟨k, hk, e, _⟩
        · omega
        · exact ⟨k, hk, e⟩
      have hp : splitB l id at' next = if (!inB at' 0 (l.getD i default).Contents.length || !inB next 1 1073741824) = true then ([], 2) else if next ≤ (l.getD (l.length - 1) default).ID then ([], 5) else if 128 ≤ l.length then ([], 12)
        else (withC l i ((l.getD i default).Contents.take at'.toNat) ++ [(l.getD i default).next next ((l.getD i default).Contents.drop at'.toNat)], 0) := by
        rw [splitB, if_neg (fun h => h hc1), if_neg hc2]
        simp only [ei, Int.toNat_natCast]
      obtain ⟨f1, f2, f3⟩ := fault_zero.1 (hr.fault _ (getD_mem l default i hi))
      have e1 : ((l.length : Int) - 1).toNat = l.length - 1 := by omega
      rw [ei]
      refine good_run 26 (obs := [decide (at' < (0 : Int)) = false ∧ True → (5 : Nat) = (5 : Nat) ∧ (0 : Int) ≤ (↑i : Int) ∧ (↑i : Int) < (↑(List.length l) : Int)]) (by kernel_rfl) (by (first | omega | assumption | exact ⟨rfl, trivial⟩ | simp only [AllP, inK_iff, roomOK_iff, decide_eq_true_eq, Bool.and_eq_true, Bool.or_eq_true, Bool.not_eq_true', decide_eq_false_iff_not, and_true, true_and]; (first | omega | (and_intros <;> intros <;> (try and_intros) <;> first | omega | assumption | exact trivial)))) ?_
      refine good_cond (decide (at' < (0 : Int)) || decide ((↑(List.length (List.getD l i default).Contents) : Int) < at') || decide (next < (1 : Int)) || decide ((1073741824 : Int) < next)) (by kernel_rfl) (fun hc3 => ?_) (fun hc3 => ?_)
      · have h3 : (!inB at' 0 (l.getD i default).Contents.length || !inB next 1 1073741824) = true := by
          simp only [Bool.or_eq_true, decide_eq_true_eq, Bool.not_eq_true'] at hc3 ⊢
          simp only [inB, Bool.and_eq_false_iff, decide_eq_false_iff_not]
          omega
        rw [if_pos h3] at hp
        rw [hp]
        refine good_run 8 (obs := []) (by kernel_rfl) trivial ?_
        refine good_fin [(0 : Nat) = (0 : Nat), (2 : Int) = (2 : Int)] (by kernel_rfl) ⟨rfl, rfl, trivial⟩
      · have h3 : (!inB at' 0 (l.getD i default).Contents.length || !inB next 1 1073741824) = false := by
          simp only [Bool.or_eq_false_iff, decide_eq_false_iff_not, Bool.not_eq_false'] at hc3 ⊢
          simp only [inB, Bool.and_eq_true, decide_eq_true_eq]
          omega
        rw [if_neg (by rw [h3]; decide)] at hp
        simp only [Bool.or_eq_false_iff, decide_eq_false_iff_not] at hc3
        have hat : 0 ≤ at' ∧ at' ≤ (l.getD i default).Contents.length := by omega
        refine good_run 15 (obs := [InK IntKind.i64 ((↑(List.length l) : Int) - (1 : Int)), (5 : Nat) = (5 : Nat) ∧ (0 : Int) ≤ (↑(List.length l) : Int) - (1 : Int) ∧ (↑(List.length l) : Int) - (1 : Int) < (↑(List.length l) : Int)]) (by kernel_rfl) (by (first | omega | assumption | exact ⟨rfl, trivial⟩ | simp only [AllP, inK_iff, roomOK_iff, decide_eq_true_eq, Bool.and_eq_true, Bool.or_eq_true, Bool.not_eq_true', decide_eq_false_iff_not, and_true, true_and]; (first | omega | (and_intros <;> intros <;> (try and_intros) <;> first | omega | assumption | exact trivial)))) ?_
        refine good_cond (decide (next ≤ (List.getD l (Int.toNat ((↑(List.length l) : Int) - (1 : Int))) default).ID)) (by kernel_rfl) (fun hc4 => ?_) (fun hc4 => ?_)
        · rw [decide_eq_true_eq, e1] at hc4
          rw [if_pos hc4] at hp
          rw [hp]
          refine good_run 8 (obs := []) (by kernel_rfl) trivial ?_
          refine good_fin [(0 : Nat) = (0 : Nat), (5 : Int) = (5 : Int)] (by kernel_rfl) ⟨rfl, rfl, trivial⟩
        · rw [decide_eq_false_iff_not, e1] at hc4
          rw [if_neg hc4] at hp
          refine good_run 9 (obs := []) (by kernel_rfl) trivial ?_
          refine good_cond (decide ((↑(List.length l) : Int) = (128 : Int))) (by kernel_rfl) (fun hc5 => ?_) (fun hc5 => ?_)
          · simp only [decide_eq_true_eq] at hc5
            rw [if_pos (by omega)] at hp
            rw [hp]
            refine good_run 8 (obs := []) (by kernel_rfl) trivial ?_
            refine good_fin [(0 : Nat) = (0 : Nat), (12 : Int) = (12 : Int)] (by kernel_rfl) ⟨rfl, rfl, trivial⟩
          · simp only [decide_eq_false_iff_not] at hc5
            rw [if_neg (by omega)] at hp
            rw [hp]
            refine good_run 4 (obs := []) (by kernel_rfl) trivial ?_
            refine good_own (c := True) (by kernel_rfl) (by kernel_rfl) (SVles.refl _) (s13 (l) (by (first | omega | assumption | exact ⟨rfl, trivial⟩ | simp only [AllP, inK_iff, roomOK_iff, decide_eq_true_eq, Bool.and_eq_true, Bool.or_eq_true, Bool.not_eq_true', decide_eq_false_iff_not, and_true, true_and]; (first | omega | (and_intros <;> intros <;> (try and_intros) <;> first | omega | assumption | exact trivial)))) (by (first | omega | assumption | exact ⟨rfl, trivial⟩ | simp only [AllP, inK_iff, roomOK_iff, decide_eq_true_eq, Bool.and_eq_true, Bool.or_eq_true, Bool.not_eq_true', decide_eq_false_iff_not, and_true, true_and]; (first | omega | (and_intros <;> intros <;> (try and_intros) <;> first | omega | assumption | exact trivial))))) ?_
            refine good_run 58 (obs := [(5 : Nat) = (5 : Nat) ∧ (0 : Int) ≤ (↑i : Int) ∧ (↑i : Int) < (↑(List.length l) : Int), (0 : Nat) + (5 : Nat) ≤ (5 : Nat), (5 : Nat) = (5 : Nat) ∧ (0 : Nat) + (5 : Nat) ≤ (5 : Nat), (5 : Nat) = (5 : Nat) ∧ (0 : Int) ≤ (↑i : Int) ∧ (↑i : Int) < (↑(List.length l) : Int), (2 : Nat) = (2 : Nat) ∧ (0 : Int) ≤ at' ∧ at' ≤ (↑(List.length (List.getD l i default).Contents) : Int) ∧ (↑(List.length (List.getD l i default).Contents) : Int) ≤ (↑(List.length (List.getD l i default).Contents) : Int), (41 : Nat) = (41 : Nat) ∧ (2 : Nat) = (2 : Nat) ∧ (2 : Nat) = (2 : Nat) ∧ roomOK ((0 : Nat) + (List.length (List.getD l i default).Contents - Int.toNat at')) (16 : Nat), (1 : Nat) = (1 : Nat) ∧ (0 : Nat) + (1 : Nat) ≤ (5 : Nat), (1 : Nat) = (1 : Nat) ∧ (4 : Nat) + (1 : Nat) ≤ (5 : Nat), (5 : Nat) = (5 : Nat) ∧ (0 : Int) ≤ (↑i : Int) ∧ (↑i : Int) < (↑(List.length l) : Int), (2 : Nat) = (2 : Nat) ∧ (0 : Int) ≤ (0 : Int) ∧ (0 : Int) ≤ at' ∧ at' ≤ (↑(List.length (List.getD l i default).Contents) : Int), (5 : Nat) = (5 : Nat) ∧ (0 : Int) ≤ (↑i : Int) ∧ (↑i : Int) < (↑(List.length l) : Int), (1 : Nat) = (1 : Nat) ∧ (4 : Nat) + (1 : Nat) ≤ (5 : Nat), (0 : Nat) + (5 : Nat) ≤ (5 : Nat), (27 : Nat) = (27 : Nat) ∧ (5 : Nat) = (5 : Nat) ∧ (5 : Nat) = (5 : Nat) ∧ roomOK (List.length l + (1 : Nat)) (56 : Nat)]) (by kernel_rfl) (by (first | omega | assumption | exact ⟨rfl, trivial⟩ | simp only [AllP, inK_iff, roomOK_iff, decide_eq_true_eq, Bool.and_eq_true, Bool.or_eq_true, Bool.not_eq_true', decide_eq_false_iff_not, and_true, true_and]; (first | omega | (and_intros <;> intros <;> (try and_intros) <;> first | omega | assumption | exact trivial)))) ?_
            refine good_finW (SV.tup [SV.lst (5 : Nat) (List.length l + (1 : Nat)) (joinGet (List.length l) (fun j => if j = i then lay ((fun i => Box.cells (List.getD l i default)) i) (4 : Nat) [SV.lst (2 : Nat) (Int.toNat at' - (0 : Nat)) fun i_1 => (fun i_2 => Content.cells (List.getD (List.getD l i default).Contents i_2 default)) (Int.toNat (0 : Int) + i_1)] else (fun i => Box.cells (List.getD l i default)) j) (cutRows (5 : Nat) [SV.int IntKind.i64 next, SV.int IntKind.i64 (List.getD l i default).Width, SV.int IntKind.i64 (List.getD l i default).Room, SV.int IntKind.i64 (List.getD l i default).Climate, SV.lst (2 : Nat) ((0 : Nat) + (List.length (List.getD l i default).Contents - Int.toNat at')) (joinGet (0 : Nat) (cutRows (2 : Nat) []) fun i_1 => (fun i_2 => Content.cells (List.getD (List.getD l i default).Contents i_2 default)) (Int.toNat at' + i_1))])), SV.int IntKind.i64 (0 : Int)]) (by kernel_rfl) ?_
            exact svle_tup ⟨split_row l i at'.toNat next hi (by omega) _ _ _ _ (by omega) (by omega) (fun k => by show Content.cells (List.getD _ (Int.toNat 0 + k) _) = _; rw [show Int.toNat 0 + k = k from Nat.zero_add k]) (fun k => by rw [joinGet_zero]), SVle.refl _, trivial⟩
end Go.Sx.T
