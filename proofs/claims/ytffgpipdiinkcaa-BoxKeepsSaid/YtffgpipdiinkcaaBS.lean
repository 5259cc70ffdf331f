/- Contracts of functions of the program, each proved by running its code symbolically (BS). -/
import Derived.Test.YtffgpipdiinkcaaBQ
namespace Go.Sx.T
open Go Go.Proofs Go.Sx
set_option maxRecDepth 100000
set_option maxHeartbeats 4000000
set_option linter.unusedVariables false
set_option linter.unusedSimpArgs false
def joinL (l : List Box) (i k : Nat) : List Box := (withC l i ((l.getD i default).Contents ++ (l.getD k default).Contents)).eraseIdx k
def joinAt (l : List Box) (i k : Nat) : List Box × Int :=
  if i = k then ([], 6) else if (l.getD i default).Climate ≠ (l.getD k default).Climate then ([], 10) else if 32 < (l.getD i default).Contents.length + (l.getD k default).Contents.length then ([], 8)
  else if (l.getD i default).Room < sumT (l.getD i default).Contents + sumT (l.getD k default).Contents then ([], 12) else (joinL l i k, 0)
def joinB (l : List Box) (a b : Int) : List Box × Int :=
  if check l ≠ 0 then ([], 1) else if findI l (fun x => decide (x.ID = a)) < 0 ∨ findI l (fun x => decide (x.ID = b)) < 0 then ([], 7)
  else joinAt l (findI l fun x => decide (x.ID = a)).toNat (findI l fun x => decide (x.ID = b)).toNat
theorem hole_row {l : List Box} {i n : Nat} {v : Value} {gc : Nat → List SV} {cs : List Content} (hi : i < l.length) (hn : n = cs.length) (hg : ∀ j, j < n → gc j = (cs.getD j default).cells) :
    ∀ j, j < l.length → SVles (if j = i then lay (holeRow l i v i) 4 [SV.lst 2 n gc] else holeRow l i v j) (Box.cells ((withC l i cs).getD j default)) := by
  intro j hj
  unfold withC
  rw [getD_set _ _ _ _ hi]
  split
  · subst hn
    refine ⟨SVle.refl _, SVle.refl _, SVle.refl _, SVle.refl _, svle_lst rfl fun i hi => SVles.of_eq (hg i hi), trivial⟩
  · rename_i e
    unfold holeRow
    rw [holeC_ne e]
    exact SVles.refl _
theorem join_get (a b : List Content) (j : Nat) (h : j < a.length + b.length) : joinGet a.length (fun i => Content.cells (a.getD i default)) (fun i => Content.cells (b.getD i default)) j = Content.cells ((a ++ b).getD j default) := by
  unfold joinGet
  split
  · rename_i h; rw [getD_append_left _ _ _ h]
  · rename_i h
    simp only
    rw [List.getD_eq_getElem?_getD, List.getD_eq_getElem?_getD, List.getElem?_append_right (by omega)]
theorem hole_join {l : List Box} {i k : Nat} {v : Value} (hi : i < l.length) : SVle (.lst 5 l.length fun j => if j = i then lay (holeRow l i v i) 4 [SV.lst 2 ((l.getD i default).Contents.length + (l.getD k default).Contents.length)
      (joinGet (l.getD i default).Contents.length (fun j => Content.cells ((l.getD i default).Contents.getD j default)) fun j => Content.cells ((l.getD k default).Contents.getD j default))] else holeRow l i v j)
    (boxes (withC l i ((l.getD i default).Contents ++ (l.getD k default).Contents))) :=
  svle_lst (by rw [withC_length]) (hole_row hi (by rw [List.length_append]) fun j hj => join_get _ _ j hj)
theorem s26 (l : List Box) (a b : Int) (hl : ∀ b ∈ l, b.Contents.length ≤ 100000) : Spec Try.prog 26 [boxes l, .int .i64 a, .int .i64 b] (.tup [boxes (joinB l a b).1, .int .i64 (joinB l a b).2]) := by
  refine spec_of_good mixed Try.func26 F26_ok (by kernel_rfl) ?_
  have hf := findI_cases l (fun x => decide (x.ID = a))
  have hg := findI_cases l (fun x => decide (x.ID = b))
  refine good_run 10 (obs := []) (by kernel_rfl) trivial ?_
  refine good_call (c := True) (by kernel_rfl) (fun _ => SVles.refl _) (fun _ => s17 (l)) (by kernel_rfl) ?_
  refine good_run 3 (obs := []) (by kernel_rfl) trivial ?_
  refine good_cond (!decide (check l = (0 : Int))) (by kernel_rfl) (fun hc1 => ?_) (fun hc1 => ?_)
  · simp only [Bool.not_eq_true', decide_eq_false_iff_not] at hc1
    have : joinB l a b = ([], 1) := by rw [joinB, if_pos hc1]
    rw [this]
    refine good_run 8 (obs := []) (by kernel_rfl) trivial ?_
    refine good_fin [(0 : Nat) = (0 : Nat), (1 : Int) = (1 : Int)] (by kernel_rfl) ⟨rfl, rfl, trivial⟩
  · simp only [Bool.not_eq_false', decide_eq_true_eq] at hc1
    have hr := check_iff.1 hc1
    have hlen := hr.len
    refine good_run 5 (obs := []) (by kernel_rfl) trivial ?_
    refine good_call (c := True) (by kernel_rfl) (fun _ => SVles.refl _) (fun _ => s37 (l) (a)) (by kernel_rfl) ?_
    refine good_run 2 (obs := []) (by kernel_rfl) trivial ?_
    refine good_call (c := True) (by kernel_rfl) (fun _ => SVles.refl _) (fun _ => s37 (l) (b)) (by kernel_rfl) ?_
    refine good_run 17 (obs := []) (by kernel_rfl) trivial ?_
    refine good_cond (decide ((findI l fun b => decide (b.ID = a)) < (0 : Int)) || decide ((findI l fun b_1 => decide (b_1.ID = b)) < (0 : Int))) (by kernel_rfl) (fun hc2 => ?_) (fun hc2 => ?_)
    · simp only [Bool.or_eq_true, decide_eq_true_eq] at hc2
      have : joinB l a b = ([], 7) := by rw [joinB, if_neg (fun h => h hc1), if_pos hc2]
      rw [this]
      refine good_run 9 (obs := []) (by kernel_rfl) trivial ?_
      refine good_fin [(0 : Nat) = (0 : Nat), (7 : Int) = (7 : Int)] (by kernel_rfl) ⟨rfl, rfl, trivial⟩
    · simp only [Bool.or_eq_false_iff, decide_eq_false_iff_not] at hc2
      obtain ⟨i, hi, ei⟩ : ∃ i : Nat, i < l.length ∧ findI l (fun x => decide (x.ID = a)) = i := by
        rcases hf with ⟨e, _⟩ | ⟨k, hk, e, _⟩
        · omega
        · exact ⟨k, hk, e⟩
      obtain ⟨k, hk, ek⟩ : ∃ i : Nat, i < l.length ∧ findI l (fun x => decide (x.ID = b)) = i := by
        rcases hg with ⟨e, _⟩ | ⟨k, hk, e, _⟩
        · omega
        · exact ⟨k, hk, e⟩
      have hp : joinB l a b = joinAt l i k := by
        rw [joinB, if_neg (fun h => h hc1), if_neg (fun h => by omega), ei, ek]; rfl
      rw [hp, ei, ek]
      clear hp hf hg hc2
      obtain ⟨f1, f2, f3⟩ := fault_zero.1 (hr.fault _ (getD_mem l default i hi))
      obtain ⟨g1, g2, g3⟩ := fault_zero.1 (hr.fault _ (getD_mem l default k hk))
      have f4 := formB_conts f1
      have g4 := formB_conts g1
      refine good_run 8 (obs := []) (by kernel_rfl) trivial ?_
      refine good_cond (decide ((↑i : Int) = (↑k : Int))) (by kernel_rfl) (fun hc2 => ?_) (fun hc2 => ?_)
      · simp only [decide_eq_true_eq] at hc2
        have e : i = k := by omega
        have : joinAt l i k = ([], 6) := by rw [joinAt, if_pos e]
        rw [this]
        refine good_run 9 (obs := []) (by kernel_rfl) trivial ?_
        refine good_fin [(0 : Nat) = (0 : Nat), (6 : Int) = (6 : Int)] (by kernel_rfl) ⟨rfl, rfl, trivial⟩
      · simp only [decide_eq_false_iff_not] at hc2
        have e : i ≠ k := fun h => hc2 (by rw [h])
        refine good_run 16 (obs := [True → (5 : Nat) = (5 : Nat) ∧ (0 : Int) ≤ (↑i : Int) ∧ (↑i : Int) < (↑(List.length l) : Int), True → (5 : Nat) = (5 : Nat) ∧ (0 : Int) ≤ (↑k : Int) ∧ (↑k : Int) < (↑(List.length l) : Int)]) (by kernel_rfl) (by (first | omega | assumption | exact ⟨rfl, trivial⟩ | simp only [AllP, inK_iff, roomOK_iff, decide_eq_true_eq, Bool.and_eq_true, Bool.or_eq_true, Bool.not_eq_true', decide_eq_false_iff_not, and_true, true_and]; (first | omega | (and_intros <;> intros <;> (try and_intros) <;> first | omega | assumption | exact trivial)))) ?_
        refine good_cond (!decide ((List.getD l i default).Climate = (List.getD l k default).Climate)) (by kernel_rfl) (fun hc3 => ?_) (fun hc3 => ?_)
        · simp only [Bool.not_eq_true', decide_eq_false_iff_not] at hc3
          have : joinAt l i k = ([], 10) := by rw [joinAt, if_neg e, if_pos hc3]
          rw [this]
          refine good_run 9 (obs := []) (by kernel_rfl) trivial ?_
          refine good_fin [(0 : Nat) = (0 : Nat), (10 : Int) = (10 : Int)] (by kernel_rfl) ⟨rfl, rfl, trivial⟩
        · simp only [Bool.not_eq_false', decide_eq_true_eq] at hc3
          refine good_run 19 (obs := [True → (5 : Nat) = (5 : Nat) ∧ (0 : Int) ≤ (↑i : Int) ∧ (↑i : Int) < (↑(List.length l) : Int), True → (5 : Nat) = (5 : Nat) ∧ (0 : Int) ≤ (↑k : Int) ∧ (↑k : Int) < (↑(List.length l) : Int), True → InK IntKind.i64 ((↑(List.length (List.getD l i default).Contents) : Int) + (↑(List.length (List.getD l k default).Contents) : Int))]) (by kernel_rfl) (by (first | omega | assumption | exact ⟨rfl, trivial⟩ | simp only [AllP, inK_iff, roomOK_iff, decide_eq_true_eq, Bool.and_eq_true, Bool.or_eq_true, Bool.not_eq_true', decide_eq_false_iff_not, and_true, true_and]; (first | omega | (and_intros <;> intros <;> (try and_intros) <;> first | omega | assumption | exact trivial)))) ?_
          refine good_cond (decide ((32 : Int) < (↑(List.length (List.getD l i default).Contents) : Int) + (↑(List.length (List.getD l k default).Contents) : Int))) (by kernel_rfl) (fun hc4 => ?_) (fun hc4 => ?_)
          · simp only [decide_eq_true_eq] at hc4
            have : joinAt l i k = ([], 8) := by rw [joinAt, if_neg e, if_neg (fun h => h hc3), if_pos (by omega)]
            rw [this]
            refine good_run 9 (obs := []) (by kernel_rfl) trivial ?_
            refine good_fin [(0 : Nat) = (0 : Nat), (8 : Int) = (8 : Int)] (by kernel_rfl) ⟨rfl, rfl, trivial⟩
          · simp only [decide_eq_false_iff_not] at hc4
            have h1 := sumT_bound _ f4
            have h2 := sumT_bound _ g4
            refine good_run 7 (obs := [True → (5 : Nat) = (5 : Nat) ∧ (0 : Int) ≤ (↑i : Int) ∧ (↑i : Int) < (↑(List.length l) : Int)]) (by kernel_rfl) (by (first | omega | assumption | exact ⟨rfl, trivial⟩ | simp only [AllP, inK_iff, roomOK_iff, decide_eq_true_eq, Bool.and_eq_true, Bool.or_eq_true, Bool.not_eq_true', decide_eq_false_iff_not, and_true, true_and]; (first | omega | (and_intros <;> intros <;> (try and_intros) <;> first | omega | assumption | exact trivial)))) ?_
            refine good_call (c := True) (by kernel_rfl) (fun _ => SVles.refl _) (fun _ => s31 ((List.getD l i default).Contents) (by (first | omega | assumption | exact ⟨rfl, trivial⟩ | simp only [AllP, inK_iff, roomOK_iff, decide_eq_true_eq, Bool.and_eq_true, Bool.or_eq_true, Bool.not_eq_true', decide_eq_false_iff_not, and_true, true_and]; (first | omega | (and_intros <;> intros <;> (try and_intros) <;> first | omega | assumption | exact trivial)))) (by (first | omega | assumption | exact ⟨rfl, trivial⟩ | simp only [AllP, inK_iff, roomOK_iff, decide_eq_true_eq, Bool.and_eq_true, Bool.or_eq_true, Bool.not_eq_true', decide_eq_false_iff_not, and_true, true_and]; (first | omega | (and_intros <;> intros <;> (try and_intros) <;> first | omega | assumption | exact trivial))))) (by kernel_rfl) ?_
            refine good_run 5 (obs := [True → (5 : Nat) = (5 : Nat) ∧ (0 : Int) ≤ (↑k : Int) ∧ (↑k : Int) < (↑(List.length l) : Int)]) (by kernel_rfl) (by (first | omega | assumption | exact ⟨rfl, trivial⟩ | simp only [AllP, inK_iff, roomOK_iff, decide_eq_true_eq, Bool.and_eq_true, Bool.or_eq_true, Bool.not_eq_true', decide_eq_false_iff_not, and_true, true_and]; (first | omega | (and_intros <;> intros <;> (try and_intros) <;> first | omega | assumption | exact trivial)))) ?_
            refine good_call (c := True) (by kernel_rfl) (fun _ => SVles.refl _) (fun _ => s31 ((List.getD l k default).Contents) (by (first | omega | assumption | exact ⟨rfl, trivial⟩ | simp only [AllP, inK_iff, roomOK_iff, decide_eq_true_eq, Bool.and_eq_true, Bool.or_eq_true, Bool.not_eq_true', decide_eq_false_iff_not, and_true, true_and]; (first | omega | (and_intros <;> intros <;> (try and_intros) <;> first | omega | assumption | exact trivial)))) (by (first | omega | assumption | exact ⟨rfl, trivial⟩ | simp only [AllP, inK_iff, roomOK_iff, decide_eq_true_eq, Bool.and_eq_true, Bool.or_eq_true, Bool.not_eq_true', decide_eq_false_iff_not, and_true, true_and]; (first | omega | (and_intros <;> intros <;> (try and_intros) <;> first | omega | assumption | exact trivial))))) (by kernel_rfl) ?_
            refine good_run 10 (obs := [True → InK IntKind.i64 (sumT (List.getD l i default).Contents + sumT (List.getD l k default).Contents), True → (5 : Nat) = (5 : Nat) ∧ (0 : Int) ≤ (↑i : Int) ∧ (↑i : Int) < (↑(List.length l) : Int)]) (by kernel_rfl) (by (first | omega | assumption | exact ⟨rfl, trivial⟩ | simp only [AllP, inK_iff, roomOK_iff, decide_eq_true_eq, Bool.and_eq_true, Bool.or_eq_true, Bool.not_eq_true', decide_eq_false_iff_not, and_true, true_and]; (first | omega | (and_intros <;> intros <;> (try and_intros) <;> first | omega | assumption | exact trivial)))) ?_
            refine good_cond (decide ((List.getD l i default).Room < sumT (List.getD l i default).Contents + sumT (List.getD l k default).Contents)) (by kernel_rfl) (fun hc5 => ?_) (fun hc5 => ?_)
            · simp only [decide_eq_true_eq] at hc5
              have : joinAt l i k = ([], 12) := by rw [joinAt, if_neg e, if_neg (fun h => h hc3), if_neg (by omega), if_pos hc5]
              rw [this]
              refine good_run 9 (obs := []) (by kernel_rfl) trivial ?_
              refine good_fin [(0 : Nat) = (0 : Nat), (12 : Int) = (12 : Int)] (by kernel_rfl) ⟨rfl, rfl, trivial⟩
            · simp only [decide_eq_false_iff_not] at hc5
              have : joinAt l i k = (joinL l i k, 0) := by rw [joinAt, if_neg e, if_neg (fun h => h hc3), if_neg (by omega), if_neg hc5]
              rw [this]
              refine good_run 5 (obs := []) (by kernel_rfl) trivial ?_
              refine good_callx [] [] (s39x l i hi (by omega) hl) (by kernel_rfl) (by kernel_rfl) [] [List.length l = List.length l ∧ ∀ (i : Nat), i < List.length l → (fun i => Box.cells (List.getD l i default)) i = (fun i => Box.cells (List.getD l i default)) i] (by kernel_rfl) trivial (by kernel_rfl) ⟨⟨rfl, fun _ _ => rfl⟩, trivial⟩ ?_
              rintro o ⟨A, c, rfl⟩
              refine ⟨trivial, ?_⟩
              refine good_run 12 (obs := []) (by kernel_rfl) trivial ?_
              refine good_split [0, 1, 2, 3, 4, 5, 6, 7, 8, 9, 10, 11] (by kernel_rfl) ?_
              refine good_set [8, 9, 10, 80, 81, 82, 83, 84, 85, 86, 87, 88, 89, 90, 91, 92, 93, 94, 2000001] [] [(5 : Nat) = (5 : Nat) ∧ (0 : Int) ≤ (↑i : Int) ∧ (↑i : Int) < (↑(List.length l) : Int), (5 : Nat) = (5 : Nat) ∧ (0 : Int) ≤ (↑k : Int) ∧ (↑k : Int) < (↑(List.length l) : Int)] (by kernel_rfl) ⟨(by (first | omega | assumption | exact ⟨rfl, trivial⟩ | simp only [AllP, inK_iff, roomOK_iff, decide_eq_true_eq, Bool.and_eq_true, Bool.or_eq_true, Bool.not_eq_true', decide_eq_false_iff_not, and_true, true_and]; (first | omega | (and_intros <;> intros <;> (try and_intros) <;> first | omega | assumption | exact trivial)))), (by (first | omega | assumption | exact ⟨rfl, trivial⟩ | simp only [AllP, inK_iff, roomOK_iff, decide_eq_true_eq, Bool.and_eq_true, Bool.or_eq_true, Bool.not_eq_true', decide_eq_false_iff_not, and_true, true_and]; (first | omega | (and_intros <;> intros <;> (try and_intros) <;> first | omega | assumption | exact trivial)))), trivial⟩ ?_
              refine good_run 1 (obs := []) (by kernel_rfl) trivial ?_
              refine good_sv 86 (a := holeC l i (Value.slice A (List.length (List.getD l i default).Contents) c) i) (.val (.slice A (l.getD i default).Contents.length c)) (by kernel_rfl) (holeC_own) ?_
              refine good_unname 86 1 (Value.slice A (List.length (List.getD l i default).Contents) c) (by kernel_rfl) ?_
              refine good_sv 91 (a := holeC l i (Value.slice A (List.length (List.getD l i default).Contents) c) k) (conts (l.getD k default).Contents) (by kernel_rfl) (holeC_le (Ne.symm e)) ?_
              refine good_run 17 (obs := [(41 : Nat) = (41 : Nat) ∧ (2 : Nat) = (2 : Nat) ∧ (2 : Nat) = (2 : Nat) ∧ roomOK (List.length (List.getD l i default).Contents + List.length (List.getD l k default).Contents) (16 : Nat), (5 : Nat) = (5 : Nat) ∧ (0 : Int) ≤ (↑i : Int) ∧ (↑i : Int) < (↑(List.length l) : Int), (1 : Nat) = (1 : Nat) ∧ (4 : Nat) + (1 : Nat) ≤ (5 : Nat)]) (by kernel_rfl) (by (first | omega | assumption | exact ⟨rfl, trivial⟩ | simp only [AllP, inK_iff, roomOK_iff, decide_eq_true_eq, Bool.and_eq_true, Bool.or_eq_true, Bool.not_eq_true', decide_eq_false_iff_not, and_true, true_and]; (first | omega | (and_intros <;> intros <;> (try and_intros) <;> first | omega | assumption | exact trivial)))) ?_
              refine good_own (args := [SV.lst (5 : Nat) (List.length l) fun j => if j = i then lay (holeRow l i (Value.slice A (List.length (List.getD l i default).Contents) c) i) (4 : Nat) [SV.lst (2 : Nat) (List.length (List.getD l i default).Contents + List.length (List.getD l k default).Contents) (joinGet (List.length (List.getD l i default).Contents) (fun i_1 => Content.cells (List.getD (List.getD l i default).Contents i_1 default)) fun i => Content.cells (List.getD (List.getD l k default).Contents i default))] else holeRow l i (Value.slice A (List.length (List.getD l i default).Contents) c) j, SV.int IntKind.i64 (↑k : Int)]) (c := True) (by kernel_rfl) (by kernel_rfl) (SVles.cons (hole_join hi) (SVles.refl _)) (s46 (withC l i ((l.getD i default).Contents ++ (l.getD k default).Contents)) k (by omega) (by rw [withC_length]; omega) (by rw [withC_length]; omega)) ?_
              refine good_run 5 (obs := []) (by kernel_rfl) trivial ?_
              refine good_fin [List.length (withC l i ((List.getD l i default).Contents ++ (List.getD l k default).Contents)) - (1 : Nat) = List.length (joinL l i k, (0 : Int)).fst ∧ ∀ (i_1 : Nat), i_1 < List.length (withC l i ((List.getD l i default).Contents ++ (List.getD l k default).Contents)) - (1 : Nat) → (fun k_1 => Box.cells (List.getD (List.eraseIdx (withC l i ((List.getD l i default).Contents ++ (List.getD l k default).Contents)) k) k_1 default)) i_1 = (fun i_2 => Box.cells (List.getD (joinL l i k, (0 : Int)).fst i_2 default)) i_1, (0 : Int) = (0 : Int)] (by kernel_rfl) ⟨?_, rfl, trivial⟩
              refine ⟨?_, fun j hj => rfl⟩
              show _ = (joinL l i k).length
              rw [joinL, List.length_eraseIdx, if_pos (by rw [withC_length]; exact hk)]
theorem join_cut {l : List Box} {i k : Nat} {v : Value} (hi : i < l.length) (hk : k < l.length) (n m : Nat) (hn : n = l.length - 1) (hm : k + m = l.length - 1) {g0 : Nat → List SV}
    (hg : ∀ j, g0 j = (fun j => if j = i then lay (holeRow l i v i) 4 [SV.lst 2 ((l.getD i default).Contents.length + (l.getD k default).Contents.length)
      (joinGet (l.getD i default).Contents.length (fun j => Content.cells ((l.getD i default).Contents.getD j default)) fun j => Content.cells ((l.getD k default).Contents.getD j default))] else holeRow l i v j) (k + 1 + j)) :
    SVle (.lst 5 n (spliceGet k m g0 fun j => if j = i then lay (holeRow l i v i) 4 [SV.lst 2 ((l.getD i default).Contents.length + (l.getD k default).Contents.length)
      (joinGet (l.getD i default).Contents.length (fun j => Content.cells ((l.getD i default).Contents.getD j default)) fun j => Content.cells ((l.getD k default).Contents.getD j default))] else holeRow l i v j)) (boxes (joinL l i k)) := by
  have hlen : (joinL l i k).length = l.length - 1 := by rw [joinL, List.length_eraseIdx, if_pos (by rw [withC_length]; exact hk), withC_length]
  refine svle_lst (by omega) fun j hj => ?_
  have key := hole_row (v := v) (gc := joinGet (l.getD i default).Contents.length (fun j => Content.cells ((l.getD i default).Contents.getD j default)) fun j => Content.cells ((l.getD k default).Contents.getD j default)) (cs := (l.getD i default).Contents ++ (l.getD k default).Contents) hi
    (n := (l.getD i default).Contents.length + (l.getD k default).Contents.length) (by rw [List.length_append]) fun j hj => join_get _ _ j hj
  have he : (joinL l i k).getD j default = (withC l i ((l.getD i default).Contents ++ (l.getD k default).Contents)).getD (if j < k then j else j + 1) default := by
    rw [joinL, List.getD_eq_getElem?_getD, List.getElem?_eraseIdx, List.getD_eq_getElem?_getD]
    split <;> rfl
  rw [he]
  unfold spliceGet
  by_cases hjk : j < k
  · rw [if_neg (by omega), if_pos hjk]
    exact key j (by omega)
  · rw [if_pos (by omega), if_neg hjk, hg, show k + 1 + (j - k) = j + 1 by omega]
    exact key (j + 1) (by omega)
theorem s27 (l : List Box) (a b : Int) (hl : ∀ b ∈ l, b.Contents.length ≤ 100000) : Spec Try.prog 27 [boxes l, .int .i64 a, .int .i64 b] (.tup [boxes (joinB l a b).1, .int .i64 (joinB l a b).2]) := by
  refine spec_of_good mixed Try.func27 F27_ok (by kernel_rfl) ?_
  have hf := findI_cases l (fun x => decide (x.ID = a))
  have hg := findI_cases l (fun x => decide (x.ID = b))
  refine good_run 10 (obs := []) (by kernel_rfl) trivial ?_
  refine good_call (c := True) (by kernel_rfl) (fun _ => SVles.refl _) (fun _ => s18 (l)) (by kernel_rfl) ?_
  refine good_run 3 (obs := []) (by kernel_rfl) trivial ?_
  refine good_cond (!decide (check l = (0 : Int))) (by kernel_rfl) (fun hc1 => ?_) (fun hc1 => ?_)
  · simp only [Bool.not_eq_true', decide_eq_false_iff_not] at hc1
    have : joinB l a b = ([], 1) := by rw [joinB, if_pos hc1]
    rw [this]
    refine good_run 8 (obs := []) (by kernel_rfl) trivial ?_
    refine good_fin [(0 : Nat) = (0 : Nat), (1 : Int) = (1 : Int)] (by kernel_rfl) ⟨rfl, rfl, trivial⟩
  · simp only [Bool.not_eq_false', decide_eq_true_eq] at hc1
    have hr := check_iff.1 hc1
    have hlen := hr.len
    refine good_run 5 (obs := []) (by kernel_rfl) trivial ?_
    refine good_call (c := True) (by kernel_rfl) (fun _ => SVles.refl _) (fun _ => s41 (l) (a)) (by kernel_rfl) ?_
    refine good_run 2 (obs := []) (by kernel_rfl) trivial ?_
    refine good_call (c := True) (by kernel_rfl) (fun _ => SVles.refl _) (fun _ => s41 (l) (b)) (by kernel_rfl) ?_
    refine good_run 15 (obs := []) (by kernel_rfl) trivial ?_
    refine good_cond (decide ((findI l fun b => decide (b.ID = a)) < (0 : Int)) || decide ((findI l fun b_1 => decide (b_1.ID = b)) < (0 : Int))) (by kernel_rfl) (fun hc2 => ?_) (fun hc2 => ?_)
    · simp only [Bool.or_eq_true, decide_eq_true_eq] at hc2
      have : joinB l a b = ([], 7) := by rw [joinB, if_neg (fun h => h hc1), if_pos hc2]
      rw [this]
      refine good_run 8 (obs := []) (by kernel_rfl) trivial ?_
      refine good_fin [(0 : Nat) = (0 : Nat), (7 : Int) = (7 : Int)] (by kernel_rfl) ⟨rfl, rfl, trivial⟩
    · simp only [Bool.or_eq_false_iff, decide_eq_false_iff_not] at hc2
      obtain ⟨i, hi, ei⟩ : ∃ i : Nat, i < l.length ∧ findI l (fun x => decide (x.ID = a)) = i := by
        rcases hf with ⟨e, _⟩ | ⟨k, hk, e, _⟩
        · omega
        · exact ⟨k, hk, e⟩
      obtain ⟨k, hk, ek⟩ : ∃ i : Nat, i < l.length ∧ findI l (fun x => decide (x.ID = b)) = i := by
        rcases hg with ⟨e, _⟩ | ⟨k, hk, e, _⟩
        · omega
        · exact ⟨k, hk, e⟩
      have hp : joinB l a b = joinAt l i k := by
        rw [joinB, if_neg (fun h => h hc1), if_neg (fun h => by omega), ei, ek]; rfl
      rw [hp, ei, ek]
      clear hp hf hg hc2
      obtain ⟨f1, f2, f3⟩ := fault_zero.1 (hr.fault _ (getD_mem l default i hi))
      obtain ⟨g1, g2, g3⟩ := fault_zero.1 (hr.fault _ (getD_mem l default k hk))
      have f4 := formB_conts f1
      have g4 := formB_conts g1
      refine good_run 9 (obs := []) (by kernel_rfl) trivial ?_
      refine good_cond (decide ((↑i : Int) = (↑k : Int))) (by kernel_rfl) (fun hc2 => ?_) (fun hc2 => ?_)
      · simp only [decide_eq_true_eq] at hc2
        have e : i = k := by omega
        have : joinAt l i k = ([], 6) := by rw [joinAt, if_pos e]
        rw [this]
        refine good_run 8 (obs := []) (by kernel_rfl) trivial ?_
        refine good_fin [(0 : Nat) = (0 : Nat), (6 : Int) = (6 : Int)] (by kernel_rfl) ⟨rfl, rfl, trivial⟩
      · simp only [decide_eq_false_iff_not] at hc2
        have e : i ≠ k := fun h => hc2 (by rw [h])
        refine good_run 17 (obs := [True → (5 : Nat) = (5 : Nat) ∧ (0 : Int) ≤ (↑i : Int) ∧ (↑i : Int) < (↑(List.length l) : Int), True → (5 : Nat) = (5 : Nat) ∧ (0 : Int) ≤ (↑k : Int) ∧ (↑k : Int) < (↑(List.length l) : Int)]) (by kernel_rfl) (by (first | omega | assumption | exact ⟨rfl, trivial⟩ | simp only [AllP, inK_iff, roomOK_iff, decide_eq_true_eq, Bool.and_eq_true, Bool.or_eq_true, Bool.not_eq_true', decide_eq_false_iff_not, and_true, true_and]; (first | omega | (and_intros <;> intros <;> (try and_intros) <;> first | omega | assumption | exact trivial)))) ?_
        refine good_cond (!decide ((List.getD l i default).Climate = (List.getD l k default).Climate)) (by kernel_rfl) (fun hc3 => ?_) (fun hc3 => ?_)
        · simp only [Bool.not_eq_true', decide_eq_false_iff_not] at hc3
          have : joinAt l i k = ([], 10) := by rw [joinAt, if_neg e, if_pos hc3]
          rw [this]
          refine good_run 8 (obs := []) (by kernel_rfl) trivial ?_
          refine good_fin [(0 : Nat) = (0 : Nat), (10 : Int) = (10 : Int)] (by kernel_rfl) ⟨rfl, rfl, trivial⟩
        · simp only [Bool.not_eq_false', decide_eq_true_eq] at hc3
          refine good_run 20 (obs := [True → (5 : Nat) = (5 : Nat) ∧ (0 : Int) ≤ (↑i : Int) ∧ (↑i : Int) < (↑(List.length l) : Int), True → (5 : Nat) = (5 : Nat) ∧ (0 : Int) ≤ (↑k : Int) ∧ (↑k : Int) < (↑(List.length l) : Int), True → InK IntKind.i64 ((↑(List.length (List.getD l i default).Contents) : Int) + (↑(List.length (List.getD l k default).Contents) : Int))]) (by kernel_rfl) (by (first | omega | assumption | exact ⟨rfl, trivial⟩ | simp only [AllP, inK_iff, roomOK_iff, decide_eq_true_eq, Bool.and_eq_true, Bool.or_eq_true, Bool.not_eq_true', decide_eq_false_iff_not, and_true, true_and]; (first | omega | (and_intros <;> intros <;> (try and_intros) <;> first | omega | assumption | exact trivial)))) ?_
          refine good_cond (decide ((32 : Int) < (↑(List.length (List.getD l i default).Contents) : Int) + (↑(List.length (List.getD l k default).Contents) : Int))) (by kernel_rfl) (fun hc4 => ?_) (fun hc4 => ?_)
          · simp only [decide_eq_true_eq] at hc4
            have : joinAt l i k = ([], 8) := by rw [joinAt, if_neg e, if_neg (fun h => h hc3), if_pos (by omega)]
            rw [this]
            refine good_run 8 (obs := []) (by kernel_rfl) trivial ?_
            refine good_fin [(0 : Nat) = (0 : Nat), (8 : Int) = (8 : Int)] (by kernel_rfl) ⟨rfl, rfl, trivial⟩
          · simp only [decide_eq_false_iff_not] at hc4
            have h1 := sumT_bound _ f4
            have h2 := sumT_bound _ g4
            refine good_run 8 (obs := [True → (5 : Nat) = (5 : Nat) ∧ (0 : Int) ≤ (↑i : Int) ∧ (↑i : Int) < (↑(List.length l) : Int), True → (0 : Nat) + (5 : Nat) ≤ (5 : Nat)]) (by kernel_rfl) (by (first | omega | assumption | exact ⟨rfl, trivial⟩ | simp only [AllP, inK_iff, roomOK_iff, decide_eq_true_eq, Bool.and_eq_true, Bool.or_eq_true, Bool.not_eq_true', decide_eq_false_iff_not, and_true, true_and]; (first | omega | (and_intros <;> intros <;> (try and_intros) <;> first | omega | assumption | exact trivial)))) ?_
            refine good_call (c := True) (by kernel_rfl) (fun _ => SVles.refl _) (fun _ => s32 (List.getD l i default) (by (first | omega | assumption | exact ⟨rfl, trivial⟩ | simp only [AllP, inK_iff, roomOK_iff, decide_eq_true_eq, Bool.and_eq_true, Bool.or_eq_true, Bool.not_eq_true', decide_eq_false_iff_not, and_true, true_and]; (first | omega | (and_intros <;> intros <;> (try and_intros) <;> first | omega | assumption | exact trivial)))) (by (first | omega | assumption | exact ⟨rfl, trivial⟩ | simp only [AllP, inK_iff, roomOK_iff, decide_eq_true_eq, Bool.and_eq_true, Bool.or_eq_true, Bool.not_eq_true', decide_eq_false_iff_not, and_true, true_and]; (first | omega | (and_intros <;> intros <;> (try and_intros) <;> first | omega | assumption | exact trivial))))) (by kernel_rfl) ?_
            refine good_run 4 (obs := [True → (5 : Nat) = (5 : Nat) ∧ (0 : Int) ≤ (↑k : Int) ∧ (↑k : Int) < (↑(List.length l) : Int), True → (0 : Nat) + (5 : Nat) ≤ (5 : Nat)]) (by kernel_rfl) (by (first | omega | assumption | exact ⟨rfl, trivial⟩ | simp only [AllP, inK_iff, roomOK_iff, decide_eq_true_eq, Bool.and_eq_true, Bool.or_eq_true, Bool.not_eq_true', decide_eq_false_iff_not, and_true, true_and]; (first | omega | (and_intros <;> intros <;> (try and_intros) <;> first | omega | assumption | exact trivial)))) ?_
            refine good_call (c := True) (by kernel_rfl) (fun _ => SVles.refl _) (fun _ => s32 (List.getD l k default) (by (first | omega | assumption | exact ⟨rfl, trivial⟩ | simp only [AllP, inK_iff, roomOK_iff, decide_eq_true_eq, Bool.and_eq_true, Bool.or_eq_true, Bool.not_eq_true', decide_eq_false_iff_not, and_true, true_and]; (first | omega | (and_intros <;> intros <;> (try and_intros) <;> first | omega | assumption | exact trivial)))) (by (first | omega | assumption | exact ⟨rfl, trivial⟩ | simp only [AllP, inK_iff, roomOK_iff, decide_eq_true_eq, Bool.and_eq_true, Bool.or_eq_true, Bool.not_eq_true', decide_eq_false_iff_not, and_true, true_and]; (first | omega | (and_intros <;> intros <;> (try and_intros) <;> first | omega | assumption | exact trivial))))) (by kernel_rfl) ?_
            refine good_run 9 (obs := [True → InK IntKind.i64 (sumT (List.getD l i default).Contents + sumT (List.getD l k default).Contents), True → (5 : Nat) = (5 : Nat) ∧ (0 : Int) ≤ (↑i : Int) ∧ (↑i : Int) < (↑(List.length l) : Int)]) (by kernel_rfl) (by (first | omega | assumption | exact ⟨rfl, trivial⟩ | simp only [AllP, inK_iff, roomOK_iff, decide_eq_true_eq, Bool.and_eq_true, Bool.or_eq_true, Bool.not_eq_true', decide_eq_false_iff_not, and_true, true_and]; (first | omega | (and_intros <;> intros <;> (try and_intros) <;> first | omega | assumption | exact trivial)))) ?_
            refine good_cond (decide ((List.getD l i default).Room < sumT (List.getD l i default).Contents + sumT (List.getD l k default).Contents)) (by kernel_rfl) (fun hc5 => ?_) (fun hc5 => ?_)
            · simp only [decide_eq_true_eq] at hc5
              have : joinAt l i k = ([], 12) := by rw [joinAt, if_neg e, if_neg (fun h => h hc3), if_neg (by omega), if_pos hc5]
              rw [this]
              refine good_run 8 (obs := []) (by kernel_rfl) trivial ?_
              refine good_fin [(0 : Nat) = (0 : Nat), (12 : Int) = (12 : Int)] (by kernel_rfl) ⟨rfl, rfl, trivial⟩
            · simp only [decide_eq_false_iff_not] at hc5
              have : joinAt l i k = (joinL l i k, 0) := by rw [joinAt, if_neg e, if_neg (fun h => h hc3), if_neg (by omega), if_neg hc5]
              rw [this]
              refine good_run 4 (obs := []) (by kernel_rfl) trivial ?_
              refine good_callx [] [] (s13x l i hi (by omega) hl) (by kernel_rfl) (by kernel_rfl) [] [List.length l = List.length l ∧ ∀ (i : Nat), i < List.length l → (fun i => Box.cells (List.getD l i default)) i = (fun i => Box.cells (List.getD l i default)) i] (by kernel_rfl) trivial (by kernel_rfl) ⟨⟨rfl, fun _ _ => rfl⟩, trivial⟩ ?_
              rintro o ⟨A, c, rfl⟩
              refine ⟨trivial, ?_⟩
              refine good_run 12 (obs := []) (by kernel_rfl) trivial ?_
              refine good_split [0, 1, 2, 3, 4, 5, 6, 7, 8, 9, 10, 11] (by kernel_rfl) ?_
              refine good_set [8, 9, 10, 73, 74, 75, 76, 77, 78, 79, 80, 81, 82, 83, 84, 85, 86, 87, 2000001] [] [(5 : Nat) = (5 : Nat) ∧ (0 : Int) ≤ (↑i : Int) ∧ (↑i : Int) < (↑(List.length l) : Int), (5 : Nat) = (5 : Nat) ∧ (0 : Int) ≤ (↑k : Int) ∧ (↑k : Int) < (↑(List.length l) : Int)] (by kernel_rfl) ⟨(by (first | omega | assumption | exact ⟨rfl, trivial⟩ | simp only [AllP, inK_iff, roomOK_iff, decide_eq_true_eq, Bool.and_eq_true, Bool.or_eq_true, Bool.not_eq_true', decide_eq_false_iff_not, and_true, true_and]; (first | omega | (and_intros <;> intros <;> (try and_intros) <;> first | omega | assumption | exact trivial)))), (by (first | omega | assumption | exact ⟨rfl, trivial⟩ | simp only [AllP, inK_iff, roomOK_iff, decide_eq_true_eq, Bool.and_eq_true, Bool.or_eq_true, Bool.not_eq_true', decide_eq_false_iff_not, and_true, true_and]; (first | omega | (and_intros <;> intros <;> (try and_intros) <;> first | omega | assumption | exact trivial)))), trivial⟩ ?_
              refine good_run 1 (obs := []) (by kernel_rfl) trivial ?_
              refine good_sv 79 (a := holeC l i (Value.slice A (List.length (List.getD l i default).Contents) c) i) (.val (.slice A (l.getD i default).Contents.length c)) (by kernel_rfl) (holeC_own) ?_
              refine good_unname 79 1 (Value.slice A (List.length (List.getD l i default).Contents) c) (by kernel_rfl) ?_
              refine good_sv 84 (a := holeC l i (Value.slice A (List.length (List.getD l i default).Contents) c) k) (conts (l.getD k default).Contents) (by kernel_rfl) (holeC_le (Ne.symm e)) ?_
              refine good_run 17 (obs := [(41 : Nat) = (41 : Nat) ∧ (2 : Nat) = (2 : Nat) ∧ (2 : Nat) = (2 : Nat) ∧ roomOK (List.length (List.getD l i default).Contents + List.length (List.getD l k default).Contents) (16 : Nat), (5 : Nat) = (5 : Nat) ∧ (0 : Int) ≤ (↑i : Int) ∧ (↑i : Int) < (↑(List.length l) : Int), (1 : Nat) = (1 : Nat) ∧ (4 : Nat) + (1 : Nat) ≤ (5 : Nat)]) (by kernel_rfl) (by (first | omega | assumption | exact ⟨rfl, trivial⟩ | simp only [AllP, inK_iff, roomOK_iff, decide_eq_true_eq, Bool.and_eq_true, Bool.or_eq_true, Bool.not_eq_true', decide_eq_false_iff_not, and_true, true_and]; (first | omega | (and_intros <;> intros <;> (try and_intros) <;> first | omega | assumption | exact trivial)))) ?_
              refine good_run 6 (obs := [True → (5 : Nat) = (5 : Nat) ∧ (0 : Int) ≤ (0 : Int) ∧ (0 : Int) ≤ (↑k : Int) ∧ (0 : Nat) + k ≤ List.length l, True → InK IntKind.i64 ((↑k : Int) + (1 : Int)), True → (5 : Nat) = (5 : Nat) ∧ (0 : Int) ≤ (↑k : Int) + (1 : Int) ∧ (↑k : Int) + (1 : Int) ≤ (↑(List.length l - (0 : Nat)) : Int) ∧ (0 : Nat) + (List.length l - (0 : Nat)) ≤ List.length l]) (by kernel_rfl) (by (first | omega | assumption | exact ⟨rfl, trivial⟩ | simp only [AllP, inK_iff, roomOK_iff, decide_eq_true_eq, Bool.and_eq_true, Bool.or_eq_true, Bool.not_eq_true', decide_eq_false_iff_not, and_true, true_and]; (first | omega | (and_intros <;> intros <;> (try and_intros) <;> first | omega | assumption | exact trivial)))) ?_
              refine good_run 1 (obs := [(0 : Nat) = (0 : Nat) ∧ (27 : Nat) = (27 : Nat) ∧ (5 : Nat) = (5 : Nat) ∧ (0 : Nat) + k + ((0 : Nat) + (List.length l - (0 : Nat)) - ((0 : Nat) + Int.toNat ((↑k : Int) + (1 : Int)))) ≤ List.length l]) (by kernel_rfl) (by (first | omega | assumption | exact ⟨rfl, trivial⟩ | simp only [AllP, inK_iff, roomOK_iff, decide_eq_true_eq, Bool.and_eq_true, Bool.or_eq_true, Bool.not_eq_true', decide_eq_false_iff_not, and_true, true_and]; (first | omega | (and_intros <;> intros <;> (try and_intros) <;> first | omega | assumption | exact trivial)))) ?_
              refine good_part 95 ((0 : Nat)) ((5 : Nat)) ((0 : Nat) + k + ((0 : Nat) + (List.length l - (0 : Nat)) - ((0 : Nat) + Int.toNat ((↑k : Int) + (1 : Int))))) (spliceGet ((0 : Nat) + k) ((0 : Nat) + (List.length l - (0 : Nat)) - ((0 : Nat) + Int.toNat ((↑k : Int) + (1 : Int)))) (fun j => (fun j => if j = i then lay (holeRow l i (Value.slice A (List.length (List.getD l i default).Contents) c) i) (4 : Nat) [SV.lst (2 : Nat) (List.length (List.getD l i default).Contents + List.length (List.getD l k default).Contents) (joinGet (List.length (List.getD l i default).Contents) (fun i_1 => Content.cells (List.getD (List.getD l i default).Contents i_1 default)) fun i => Content.cells (List.getD (List.getD l k default).Contents i default))] else holeRow l i (Value.slice A (List.length (List.getD l i default).Contents) c) j) ((0 : Nat) + Int.toNat ((↑k : Int) + (1 : Int)) + j)) fun j => if j = i then lay (holeRow l i (Value.slice A (List.length (List.getD l i default).Contents) c) i) (4 : Nat) [SV.lst (2 : Nat) (List.length (List.getD l i default).Contents + List.length (List.getD l k default).Contents) (joinGet (List.length (List.getD l i default).Contents) (fun i_1 => Content.cells (List.getD (List.getD l i default).Contents i_1 default)) fun i => Content.cells (List.getD (List.getD l k default).Contents i default))] else holeRow l i (Value.slice A (List.length (List.getD l i default).Contents) c) j) (by kernel_rfl) ?_
              refine good_run 5 (obs := []) (by kernel_rfl) trivial ?_
              refine good_finW (SV.tup [SV.lst (5 : Nat) ((0 : Nat) + k + ((0 : Nat) + (List.length l - (0 : Nat)) - ((0 : Nat) + Int.toNat ((↑k : Int) + (1 : Int))))) (spliceGet ((0 : Nat) + k) ((0 : Nat) + (List.length l - (0 : Nat)) - ((0 : Nat) + Int.toNat ((↑k : Int) + (1 : Int)))) (fun j => (fun j => if j = i then lay (holeRow l i (Value.slice A (List.length (List.getD l i default).Contents) c) i) (4 : Nat) [SV.lst (2 : Nat) (List.length (List.getD l i default).Contents + List.length (List.getD l k default).Contents) (joinGet (List.length (List.getD l i default).Contents) (fun i_1 => Content.cells (List.getD (List.getD l i default).Contents i_1 default)) fun i => Content.cells (List.getD (List.getD l k default).Contents i default))] else holeRow l i (Value.slice A (List.length (List.getD l i default).Contents) c) j) ((0 : Nat) + Int.toNat ((↑k : Int) + (1 : Int)) + j)) fun j => if j = i then lay (holeRow l i (Value.slice A (List.length (List.getD l i default).Contents) c) i) (4 : Nat) [SV.lst (2 : Nat) (List.length (List.getD l i default).Contents + List.length (List.getD l k default).Contents) (joinGet (List.length (List.getD l i default).Contents) (fun i_1 => Content.cells (List.getD (List.getD l i default).Contents i_1 default)) fun i => Content.cells (List.getD (List.getD l k default).Contents i default))] else holeRow l i (Value.slice A (List.length (List.getD l i default).Contents) c) j), SV.int IntKind.i64 (0 : Int)]) (by kernel_rfl) ?_
              refine svle_tup ⟨?_, SVle.refl _, trivial⟩
              simp only [Nat.zero_add]
              refine join_cut hi hk _ _ ?_ ?_ ?_
              · omega
              · omega
              · intro j
                rw [show ((k : Int) + 1).toNat = k + 1 by omega]
end Go.Sx.T
