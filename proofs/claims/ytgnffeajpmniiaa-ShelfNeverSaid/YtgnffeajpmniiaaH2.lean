/- Contracts of functions of the program, each proved by running its code symbolically (H2). -/
import Derived.Test.YtgnffeajpmniiaaHX
namespace Go.Sx.T
open Go Go.Proofs Go.Sx
set_option maxRecDepth 100000
set_option maxHeartbeats 4000000
set_option linter.unusedVariables false
set_option linter.unusedSimpArgs false
def removeL (s : List Std) (i k : Nat) : List Std := if (s.getD i default).Boxes.length = 1 then s.eraseIdx i else s.set i ⟨(s.getD i default).Shelf, (s.getD i default).Boxes.eraseIdx k⟩
def removeR (l : List Shf) (b : List Box) (s : List Std) (id : Int) : List Std × Int :=
  if checkS l b s ≠ 0 then ([], 1) else if isK b Box.ID id = false then ([], 7) else if (findP id 0 s).1 < 0 then ([], 11) else (removeL s (findP id 0 s).1.toNat (findP id 0 s).2.toNat, 0)
def remC (s : List Std) (i : Nat) (bs : List Int) (j : Nat) : SV := if j = i then ints bs else ints (s.getD j default).Boxes
def remRow (s : List Std) (i : Nat) (bs : List Int) (j : Nat) : List SV := [.int .i64 (s.getD j default).Shelf, remC s i bs j]
theorem remC_own {s : List Std} {i : Nat} {bs : List Int} : SVle (remC s i bs i) (ints bs) := by rw [remC, if_pos rfl]; exact SVle.refl _
theorem rem_le {s : List Std} {i k : Nat} {v : Value} (j : Nat) (hk : k < (s.getD i default).Boxes.length) :
    SVles (if j = i then lay (holeRow s i v i) 1 [SV.lst 1 ((s.getD i default).Boxes.length - (((k : Int) + 1).toNat - ((k : Int)).toNat)) fun q => if q < ((k : Int)).toNat then [SV.int .i64 ((s.getD i default).Boxes.getD q 0)] else [SV.int .i64 ((s.getD i default).Boxes.getD (q + (((k : Int) + 1).toNat - ((k : Int)).toNat)) 0)]] else holeRow s i v j) (remRow s i ((s.getD i default).Boxes.eraseIdx k) j) := by
  have e : ((k : Int) + 1).toNat - ((k : Int)).toNat = 1 := by omega
  rw [e, Int.toNat_natCast]
  unfold remRow remC
  split
  · rename_i h
    subst h
    refine ⟨SVle.refl _, svle_lst (by rw [List.length_eraseIdx, if_pos hk]) fun q hq => ?_, trivial⟩
    rw [List.getD_eq_getElem?_getD (l := List.eraseIdx _ _), List.getElem?_eraseIdx]
    split
    · rw [List.getD_eq_getElem?_getD]; exact SVles.refl _
    · rw [List.getD_eq_getElem?_getD]; exact SVles.refl _
  · rename_i h
    unfold holeRow
    rw [holeC_ne h]
    exact SVles.refl _
theorem s30 (l : List Shf) (b : List Box) (s : List Std) (id : Int) (hs : s.length ≤ 100) (hx : ∀ y ∈ s, y.Boxes.length ≤ 1000) :
    Spec Try.prog 30 [shfs l, boxes b, stds s, .int .i64 id] (.tup [stds (removeR l b s id).1, .int .i64 (removeR l b s id).2]) := by
  have hs' : s.length ≤ 100000 := by omega
  have hx' : ∀ y ∈ s, y.Boxes.length ≤ 100000 := fun y hy => by have := hx y hy; omega
  refine spec_of_good mixed Try.func30 F30_ok (by kernel_rfl) ?_
  by_cases h : checkS l b s = 0
  · have hR := right_of h
    have b128 : b.length ≤ 100000 := by have := hR.b128; omega
    have s43a := s43 l b s hs' hx' h
    have e0 : removeR l b s id = if isK b Box.ID id = false then ([], 7) else if (findP id 0 s).1 < 0 then ([], 11) else (removeL s (findP id 0 s).1.toNat (findP id 0 s).2.toNat, 0) := by rw [removeR, if_neg (fun g => g h)]
    by_cases h1 : isK b Box.ID id = false
    · rw [e0, if_pos h1]
      have e2 : locR b s id = (0, 0, 7) := by rw [locR, if_pos h1]
      have s49a : Spec Try.prog 49 [store l b s, .int .i64 id] (.tup [.int .i64 0, .int .i64 0, .int .i64 7]) := by
        have := s49 l b s id hR.ab b128 hs'
        rwa [e2] at this
      refine good_run 11 (obs := []) (by kernel_rfl) trivial ?_
      refine good_call (c := True) (by kernel_rfl) (fun _ => SVles.refl _) (fun _ => s43a) (by kernel_rfl) ?_
      refine good_run 15 (obs := [(3 : Nat) = (3 : Nat) ∧ (0 : Nat) + (3 : Nat) ≤ (3 : Nat)]) (by kernel_rfl) (by (first | omega | assumption | exact ⟨rfl, trivial⟩ | simp only [AllP, inK_iff, roomOK_iff, decide_eq_true_eq, Bool.and_eq_true, Bool.or_eq_true, Bool.not_eq_true', decide_eq_false_iff_not, and_true, true_and]; (first | omega | (and_intros <;> intros <;> (try and_intros) <;> first | omega | assumption | exact trivial)))) ?_
      refine good_cond false (by kernel_rfl) (fun h => nomatch h) (fun _ => ?_)
      refine good_run 5 (obs := [(0 : Nat) + (3 : Nat) ≤ (3 : Nat)]) (by kernel_rfl) (by (first | omega | assumption | exact ⟨rfl, trivial⟩ | simp only [AllP, inK_iff, roomOK_iff, decide_eq_true_eq, Bool.and_eq_true, Bool.or_eq_true, Bool.not_eq_true', decide_eq_false_iff_not, and_true, true_and]; (first | omega | (and_intros <;> intros <;> (try and_intros) <;> first | omega | assumption | exact trivial)))) ?_
      refine good_call (c := True) (by kernel_rfl) (fun _ => SVles.refl _) (fun _ => s49a) (by kernel_rfl) ?_
      refine good_run 16 (obs := []) (by kernel_rfl) trivial ?_
      refine good_cond true (by kernel_rfl) (fun _ => ?_) (fun h => nomatch h)
      refine good_run 9 (obs := []) (by kernel_rfl) trivial ?_
      refine good_fin [(0 : Nat) = (0 : Nat), (7 : Int) = (7 : Int)] (by kernel_rfl) ⟨rfl, rfl, trivial⟩
    · rcases findP_cases id s 0 with ⟨g1, g2⟩ | ⟨i, k, hi, hk, g1, g2, g3, g4⟩
      · rw [e0, if_neg h1, if_pos (by rw [g1]; decide)]
        have e2 : locR b s id = (0, 0, 11) := by rw [locR, if_neg h1, if_pos (by rw [g1]; decide)]
        have s49a : Spec Try.prog 49 [store l b s, .int .i64 id] (.tup [.int .i64 0, .int .i64 0, .int .i64 11]) := by
          have := s49 l b s id hR.ab b128 hs'
          rwa [e2] at this
        refine good_run 11 (obs := []) (by kernel_rfl) trivial ?_
        refine good_call (c := True) (by kernel_rfl) (fun _ => SVles.refl _) (fun _ => s43a) (by kernel_rfl) ?_
        refine good_run 15 (obs := [(3 : Nat) = (3 : Nat) ∧ (0 : Nat) + (3 : Nat) ≤ (3 : Nat)]) (by kernel_rfl) (by (first | omega | assumption | exact ⟨rfl, trivial⟩ | simp only [AllP, inK_iff, roomOK_iff, decide_eq_true_eq, Bool.and_eq_true, Bool.or_eq_true, Bool.not_eq_true', decide_eq_false_iff_not, and_true, true_and]; (first | omega | (and_intros <;> intros <;> (try and_intros) <;> first | omega | assumption | exact trivial)))) ?_
        refine good_cond false (by kernel_rfl) (fun h => nomatch h) (fun _ => ?_)
        refine good_run 5 (obs := [(0 : Nat) + (3 : Nat) ≤ (3 : Nat)]) (by kernel_rfl) (by (first | omega | assumption | exact ⟨rfl, trivial⟩ | simp only [AllP, inK_iff, roomOK_iff, decide_eq_true_eq, Bool.and_eq_true, Bool.or_eq_true, Bool.not_eq_true', decide_eq_false_iff_not, and_true, true_and]; (first | omega | (and_intros <;> intros <;> (try and_intros) <;> first | omega | assumption | exact trivial)))) ?_
        refine good_call (c := True) (by kernel_rfl) (fun _ => SVles.refl _) (fun _ => s49a) (by kernel_rfl) ?_
        refine good_run 16 (obs := []) (by kernel_rfl) trivial ?_
        refine good_cond true (by kernel_rfl) (fun _ => ?_) (fun h => nomatch h)
        refine good_run 9 (obs := []) (by kernel_rfl) trivial ?_
        refine good_fin [(0 : Nat) = (0 : Nat), (11 : Int) = (11 : Int)] (by kernel_rfl) ⟨rfl, rfl, trivial⟩
      · rw [Nat.zero_add] at g1
        have e : removeR l b s id = (removeL s i k, 0) := by
          rw [e0, if_neg h1, if_neg (by rw [g1]; show ¬ (i : Int) < 0; omega), g1]
          rfl
        have e2 : locR b s id = ((i : Int), (k : Int), 0) := by
          rw [locR, if_neg h1, if_neg (by rw [g1]; show ¬ (i : Int) < 0; omega), g1]
        rw [e]
        have s49a : Spec Try.prog 49 [store l b s, .int .i64 id] (.tup [.int .i64 (i : Int), .int .i64 (k : Int), .int .i64 0]) := by
          have := s49 l b s id hR.ab b128 hs'
          rwa [e2] at this
        have hxi := hx _ (getD_mem s default i hi)
        refine good_run 11 (obs := []) (by kernel_rfl) trivial ?_
        refine good_call (c := True) (by kernel_rfl) (fun _ => SVles.refl _) (fun _ => s43a) (by kernel_rfl) ?_
        refine good_run 15 (obs := [(3 : Nat) = (3 : Nat) ∧ (0 : Nat) + (3 : Nat) ≤ (3 : Nat)]) (by kernel_rfl) (by (first | omega | assumption | exact ⟨rfl, trivial⟩ | simp only [AllP, inK_iff, roomOK_iff, decide_eq_true_eq, Bool.and_eq_true, Bool.or_eq_true, Bool.not_eq_true', decide_eq_false_iff_not, and_true, true_and]; (first | omega | (and_intros <;> intros <;> (try and_intros) <;> first | omega | assumption | exact trivial)))) ?_
        refine good_cond false (by kernel_rfl) (fun h => nomatch h) (fun _ => ?_)
        refine good_run 5 (obs := [(0 : Nat) + (3 : Nat) ≤ (3 : Nat)]) (by kernel_rfl) (by (first | omega | assumption | exact ⟨rfl, trivial⟩ | simp only [AllP, inK_iff, roomOK_iff, decide_eq_true_eq, Bool.and_eq_true, Bool.or_eq_true, Bool.not_eq_true', decide_eq_false_iff_not, and_true, true_and]; (first | omega | (and_intros <;> intros <;> (try and_intros) <;> first | omega | assumption | exact trivial)))) ?_
        refine good_call (c := True) (by kernel_rfl) (fun _ => SVles.refl _) (fun _ => s49a) (by kernel_rfl) ?_
        refine good_run 16 (obs := []) (by kernel_rfl) trivial ?_
        refine good_cond false (by kernel_rfl) (fun h => nomatch h) (fun _ => ?_)
        refine good_run 4 (obs := []) (by kernel_rfl) trivial ?_
        refine good_callx [] [] (s55x s i hi (by omega) hx') (by kernel_rfl) (by kernel_rfl) [] [List.length s = List.length s ∧ ∀ (i : Nat), i < List.length s → (fun i => Std.cells (List.getD s i default)) i = (fun i => Std.cells (List.getD s i default)) i] (by kernel_rfl) trivial (by kernel_rfl) ⟨⟨rfl, fun _ _ => rfl⟩, trivial⟩ ?_
        rintro o ⟨A, c, rfl⟩
        refine ⟨trivial, ?_⟩
        refine good_run 16 (obs := [(2 : Nat) = (2 : Nat) ∧ (0 : Int) ≤ (↑i : Int) ∧ (↑i : Int) < (↑(List.length s) : Int), InK IntKind.i64 ((↑k : Int) + (1 : Int))]) (by kernel_rfl) (by (first | omega | assumption | exact ⟨rfl, trivial⟩ | simp only [AllP, inK_iff, roomOK_iff, decide_eq_true_eq, Bool.and_eq_true, Bool.or_eq_true, Bool.not_eq_true', decide_eq_false_iff_not, and_true, true_and]; (first | omega | (and_intros <;> intros <;> (try and_intros) <;> first | omega | assumption | exact trivial)))) ?_
        refine good_sv 43 (a := holeC s i (Value.slice A (List.length (List.getD s i default).Boxes) c) i) (.val (.slice A (s.getD i default).Boxes.length c)) (by kernel_rfl) (holeC_own) ?_
        refine good_unname 43 2 (Value.slice A (List.length (List.getD s i default).Boxes) c) (by kernel_rfl) ?_
        refine good_take (by kernel_rfl) (SVles.refl _) (SVles.refl _) (s58 (List.length (List.getD s i default).Boxes) (fun k => [SV.int IntKind.i64 (List.getD (List.getD s i default).Boxes k (0 : Int))]) ((↑k : Int)) ((↑k : Int) + (1 : Int)) (by (first | omega | assumption | exact ⟨rfl, trivial⟩ | simp only [AllP, inK_iff, roomOK_iff, decide_eq_true_eq, Bool.and_eq_true, Bool.or_eq_true, Bool.not_eq_true', decide_eq_false_iff_not, and_true, true_and]; (first | omega | (and_intros <;> intros <;> (try and_intros) <;> first | omega | assumption | exact trivial)))) (by (first | omega | assumption | exact ⟨rfl, trivial⟩ | simp only [AllP, inK_iff, roomOK_iff, decide_eq_true_eq, Bool.and_eq_true, Bool.or_eq_true, Bool.not_eq_true', decide_eq_false_iff_not, and_true, true_and]; (first | omega | (and_intros <;> intros <;> (try and_intros) <;> first | omega | assumption | exact trivial)))) (by (first | omega | assumption | exact ⟨rfl, trivial⟩ | simp only [AllP, inK_iff, roomOK_iff, decide_eq_true_eq, Bool.and_eq_true, Bool.or_eq_true, Bool.not_eq_true', decide_eq_false_iff_not, and_true, true_and]; (first | omega | (and_intros <;> intros <;> (try and_intros) <;> first | omega | assumption | exact trivial))))) ?_
        refine good_run 11 (obs := [(2 : Nat) = (2 : Nat) ∧ (0 : Int) ≤ (↑i : Int) ∧ (↑i : Int) < (↑(List.length s) : Int), (1 : Nat) = (1 : Nat) ∧ (1 : Nat) + (1 : Nat) ≤ (2 : Nat), (2 : Nat) = (2 : Nat) ∧ (0 : Int) ≤ (↑i : Int) ∧ (↑i : Int) < (↑(List.length s) : Int)]) (by kernel_rfl) (by (first | omega | assumption | exact ⟨rfl, trivial⟩ | simp only [AllP, inK_iff, roomOK_iff, decide_eq_true_eq, Bool.and_eq_true, Bool.or_eq_true, Bool.not_eq_true', decide_eq_false_iff_not, and_true, true_and]; (first | omega | (and_intros <;> intros <;> (try and_intros) <;> first | omega | assumption | exact trivial)))) ?_
        refine good_row 1 (t := (47 : Nat)) (sz := (2 : Nat)) (n := List.length s) (mu := true) (get := fun j => if j = i then lay (holeRow s i (Value.slice A (List.length (List.getD s i default).Boxes) c) i) (1 : Nat) [SV.lst (1 : Nat) (List.length (List.getD s i default).Boxes - (Int.toNat ((↑k : Int) + (1 : Int)) - k)) fun k_1 => if k_1 < k then [SV.int IntKind.i64 (List.getD (List.getD s i default).Boxes k_1 (0 : Int))] else [SV.int IntKind.i64 (List.getD (List.getD s i default).Boxes (k_1 + (Int.toNat ((↑k : Int) + (1 : Int)) - k)) (0 : Int))]] else holeRow s i (Value.slice A (List.length (List.getD s i default).Boxes) c) j) (fun j => remRow s i ((s.getD i default).Boxes.eraseIdx k) j) (by kernel_rfl) (fun j hj => rem_le j hk) ?_
        refine good_run 1 (obs := []) (by kernel_rfl) trivial ?_
        refine good_sv 54 (a := remC s i (List.eraseIdx (List.getD s i default).Boxes k) i) (ints ((s.getD i default).Boxes.eraseIdx k)) (by kernel_rfl) (remC_own) ?_
        have hlen : ((s.getD i default).Boxes.eraseIdx k).length = (s.getD i default).Boxes.length - 1 := by rw [List.length_eraseIdx, if_pos hk]
        refine good_run 4 (obs := []) (by kernel_rfl) trivial ?_
        refine good_cond (decide ((↑(List.length (List.eraseIdx (List.getD s i default).Boxes k)) : Int) = (0 : Int))) (by kernel_rfl) (fun hc1 => ?_) (fun hc1 => ?_)
        · have h5 : (s.getD i default).Boxes.length = 1 := by
            rw [hlen] at hc1
            simp only [decide_eq_true_eq] at hc1
            omega
          have er : removeL s i k = s.eraseIdx i := by rw [removeL, if_pos h5]
          rw [er]
          refine good_run 5 (obs := [InK IntKind.i64 ((↑i : Int) + (1 : Int))]) (by kernel_rfl) (by (first | omega | assumption | exact ⟨rfl, trivial⟩ | simp only [AllP, inK_iff, roomOK_iff, decide_eq_true_eq, Bool.and_eq_true, Bool.or_eq_true, Bool.not_eq_true', decide_eq_false_iff_not, and_true, true_and]; (first | omega | (and_intros <;> intros <;> (try and_intros) <;> first | omega | assumption | exact trivial)))) ?_
          refine good_take (by kernel_rfl) (SVles.refl _) (SVles.refl _) (s59 (List.length s) (fun j => remRow s i (List.eraseIdx (List.getD s i default).Boxes k) j) ((↑i : Int)) ((↑i : Int) + (1 : Int)) (by (first | omega | assumption | exact ⟨rfl, trivial⟩ | simp only [AllP, inK_iff, roomOK_iff, decide_eq_true_eq, Bool.and_eq_true, Bool.or_eq_true, Bool.not_eq_true', decide_eq_false_iff_not, and_true, true_and]; (first | omega | (and_intros <;> intros <;> (try and_intros) <;> first | omega | assumption | exact trivial)))) (by (first | omega | assumption | exact ⟨rfl, trivial⟩ | simp only [AllP, inK_iff, roomOK_iff, decide_eq_true_eq, Bool.and_eq_true, Bool.or_eq_true, Bool.not_eq_true', decide_eq_false_iff_not, and_true, true_and]; (first | omega | (and_intros <;> intros <;> (try and_intros) <;> first | omega | assumption | exact trivial)))) (by (first | omega | assumption | exact ⟨rfl, trivial⟩ | simp only [AllP, inK_iff, roomOK_iff, decide_eq_true_eq, Bool.and_eq_true, Bool.or_eq_true, Bool.not_eq_true', decide_eq_false_iff_not, and_true, true_and]; (first | omega | (and_intros <;> intros <;> (try and_intros) <;> first | omega | assumption | exact trivial))))) ?_
          refine good_run 11 (obs := []) (by kernel_rfl) trivial ?_
          refine good_fin [List.length s - (Int.toNat ((↑i : Int) + (1 : Int)) - i) = List.length (List.eraseIdx s i, (0 : Int)).fst ∧ ∀ (i_1 : Nat), i_1 < List.length s - (Int.toNat ((↑i : Int) + (1 : Int)) - i) → (fun k_1 => if k_1 < i then remRow s i (List.eraseIdx (List.getD s i default).Boxes k) k_1 else remRow s i (List.eraseIdx (List.getD s i default).Boxes k) (k_1 + (Int.toNat ((↑i : Int) + (1 : Int)) - i))) i_1 = (fun i_2 => Std.cells (List.getD (List.eraseIdx s i, (0 : Int)).fst i_2 default)) i_1, (0 : Int) = (0 : Int)] (by kernel_rfl) ⟨?_, rfl, trivial⟩
          have e5 : ((i : Int) + 1).toNat - i = 1 := by omega
          rw [e5]
          refine ⟨by show _ = (s.eraseIdx i).length; rw [List.length_eraseIdx, if_pos hi], fun j hj => ?_⟩
          show (if j < i then remRow s i _ j else remRow s i _ (j + 1)) = ((s.eraseIdx i).getD j default).cells
          rw [List.getD_eq_getElem?_getD (l := List.eraseIdx _ _), List.getElem?_eraseIdx]
          split
          · rw [← List.getD_eq_getElem?_getD]
            unfold remRow remC
            rw [if_neg (by omega)]; rfl
          · rw [← List.getD_eq_getElem?_getD]
            unfold remRow remC
            rw [if_neg (by omega)]; rfl
        · have h5 : (s.getD i default).Boxes.length ≠ 1 := by
            rw [hlen] at hc1
            simp only [decide_eq_false_iff_not] at hc1
            omega
          have er : removeL s i k = s.set i ⟨(s.getD i default).Shelf, (s.getD i default).Boxes.eraseIdx k⟩ := by rw [removeL, if_neg h5]
          rw [er]
          refine good_run 9 (obs := []) (by kernel_rfl) trivial ?_
          refine good_fin [List.length s = List.length (List.set s i { Shelf := (List.getD s i default).Shelf, Boxes := List.eraseIdx (List.getD s i default).Boxes k }, (0 : Int)).fst ∧ ∀ (i_1 : Nat), i_1 < List.length s → (fun j => remRow s i (List.eraseIdx (List.getD s i default).Boxes k) j) i_1 = (fun i_2 => Std.cells (List.getD (List.set s i { Shelf := (List.getD s i default).Shelf, Boxes := List.eraseIdx (List.getD s i default).Boxes k }, (0 : Int)).fst i_2 default)) i_1, (0 : Int) = (0 : Int)] (by kernel_rfl) ⟨?_, rfl, trivial⟩
          refine ⟨by simp, fun j hj => ?_⟩
          show remRow s i _ j = ((s.set i _).getD j default).cells
          rw [getD_set _ _ _ _ hi]
          unfold remRow remC
          split
          · rename_i h; subst h; rfl
          · rfl
  · have e : removeR l b s id = ([], 1) := by rw [removeR, if_pos h]
    rw [e]
    have s43a := s43a l b s hs' hx' h
    refine good_run 11 (obs := []) (by kernel_rfl) trivial ?_
    refine good_call (c := True) (by kernel_rfl) (fun _ => SVles.refl _) (fun _ => s43a) (by kernel_rfl) ?_
    refine good_run 15 (obs := [(3 : Nat) = (3 : Nat) ∧ (0 : Nat) + (3 : Nat) ≤ (3 : Nat)]) (by kernel_rfl) (by (first | omega | assumption | exact ⟨rfl, trivial⟩ | simp only [AllP, inK_iff, roomOK_iff, decide_eq_true_eq, Bool.and_eq_true, Bool.or_eq_true, Bool.not_eq_true', decide_eq_false_iff_not, and_true, true_and]; (first | omega | (and_intros <;> intros <;> (try and_intros) <;> first | omega | assumption | exact trivial)))) ?_
    refine good_cond true (by kernel_rfl) (fun _ => ?_) (fun h => nomatch h)
    refine good_run 9 (obs := []) (by kernel_rfl) trivial ?_
    refine good_fin [(0 : Nat) = (0 : Nat), (1 : Int) = (1 : Int)] (by kernel_rfl) ⟨rfl, rfl, trivial⟩
end Go.Sx.T
