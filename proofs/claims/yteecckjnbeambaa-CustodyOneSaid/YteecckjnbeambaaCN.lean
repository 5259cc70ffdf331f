/- Contracts of functions of the program, each proved by running its code symbolically (CN). -/
import Derived.Test.YteecckjnbeambaaCM
namespace Go.Sx.T
open Go Go.Proofs Go.Sx
set_option maxRecDepth 100000
set_option maxHeartbeats 4000000
set_option linter.unusedVariables false
set_option linter.unusedSimpArgs false
theorem s28 (l : List Move) (b : Int) : Spec Try.prog 28 [moves l, .int .i64 b] (.tup [places (staysF l b).1, spans (staysF l b).2.1, .int .i64 (staysF l b).2.2]) := by
  have h25 := s25 l b
  refine spec_of_good mixed Try.func28 F28_ok (by kernel_rfl) ?_
  have heq := eq24
  by_cases hc : checkL l = 0
  · have hll := ((checkL_iff l).1 hc).1
    by_cases hb : okId b = true
    · have e0 : histF l b = (histL l b, 0) := by rw [histF, if_neg (by simp [hc]), if_pos hb]
      have e : staysF l b = ((stayN (histL l b) (histL l b).length).1, (stayN (histL l b) (histL l b).length).2, 0) := by rw [staysF, if_neg (by simp [hc]), if_pos hb]
      have s25a : Spec Try.prog 25 [moves l, .int .i64 b] (.tup [moves (histL l b), .int .i64 0]) := by rwa [e0] at h25
      have hhl : (histL l b).length ≤ l.length := List.length_filter_le _ _
      rw [e]
      refine good_run 11 (obs := []) (by kernel_rfl) trivial ?_
      refine good_call (c := True) (by kernel_rfl) (fun _ => SVles.refl _) (fun _ => s25a) (by kernel_rfl) ?_
      refine good_run 14 (obs := []) (by kernel_rfl) trivial ?_
      refine good_cond false (by kernel_rfl) (fun h => nomatch h) (fun _ => ?_)
      refine good_run 15 (obs := []) (by kernel_rfl) trivial ?_
      refine good_row 0 (t := (24 : Nat)) (sz := (2 : Nat)) (n := (1 : Nat)) (mu := true) (get := cutRows (2 : Nat) [SV.val (Value.int IntKind.i64 (Int.ofNat (0 : Nat))), SV.val (Value.int IntKind.i64 (Int.ofNat (0 : Nat)))]) (fun i => (([⟨0, 0⟩] : List Place).getD i default).cells) (by kernel_rfl) (fun i hi => by obtain rfl : i = 0 := (by omega); exact ⟨svle_val_int _ _, svle_val_int _ _, trivial⟩) ?_
      refine good_row 1 (t := (50 : Nat)) (sz := (2 : Nat)) (n := (1 : Nat)) (mu := true) (get := cutRows (2 : Nat) [SV.val (Value.int IntKind.i64 (Int.ofNat (0 : Nat))), SV.int IntKind.i64 (1048576 : Int)]) (fun i => (([⟨0, 1048576⟩] : List Span).getD i default).cells) (by kernel_rfl) (fun i hi => by obtain rfl : i = 0 := (by omega); exact ⟨svle_val_int _ _, SVle.refl _, trivial⟩) ?_
      refine good_run 5 (obs := []) (by kernel_rfl) trivial ?_
      clear s25a e0
      generalize histL l b = h at *
      refine good_loopJ (fun i : Nat => ⟨[(29, .sv (.int .i64 (i))), (10, .own 1), (9, .own 0), (28, LV.sv (SV.int IntKind.i64 (↑(List.length h) : Int))), (27, LV.sv (SV.lst (6 : Nat) (List.length h) fun i => Move.cells (List.getD h i default))), (7, LV.sv (SV.lst (6 : Nat) (List.length h) fun i => Move.cells (List.getD h i default)))], [.row 24 2 (stayN h i).1.length true fun j => ((stayN h i).1.getD j default).cells, .row 50 2 (stayN h i).2.length true fun j => ((stayN h i).2.getD j default).cells]⟩) (fun i => i ≤ h.length) (fun i => h.length - i) (0) [(1 : Nat) = (1 : Nat) ∧ ∀ (i : Nat), i < (1 : Nat) → (fun i => Place.cells (List.getD [{ Kind := (0 : Int), Of := (0 : Int) }] i default)) i = (fun j => Place.cells (List.getD (stayN h (0 : Nat)).fst j default)) i, (1 : Nat) = (1 : Nat) ∧ ∀ (i : Nat), i < (1 : Nat) → (fun i => Span.cells (List.getD [{ From := (0 : Int), Until := (1048576 : Int) }] i default)) i = (fun j => Span.cells (List.getD (stayN h (0 : Nat)).snd j default)) i, (0 : Int) = (0 : Int), (↑(List.length h) : Int) = (↑(List.length h) : Int), List.length h = List.length h ∧ ∀ (i : Nat), i < List.length h → (fun i => Move.cells (List.getD h i default)) i = (fun i => Move.cells (List.getD h i default)) i, List.length h = List.length h ∧ ∀ (i : Nat), i < List.length h → (fun i => Move.cells (List.getD h i default)) i = (fun i => Move.cells (List.getD h i default)) i] (by kernel_rfl) (by kernel_rfl) ⟨?_, ?_, rfl, rfl, ⟨rfl, fun _ _ => rfl⟩, ⟨rfl, fun _ _ => rfl⟩, trivial⟩ (by omega) ?_
      · exact ⟨rfl, fun _ _ => rfl⟩
      · exact ⟨rfl, fun _ _ => rfl⟩
      intro i hi
      obtain ⟨n1, n2, n3⟩ := stayN_len h i
      refine good_run 6 (obs := []) (by kernel_rfl) trivial ?_
      refine good_cond (decide ((↑i : Int) < (↑(List.length h) : Int))) (by kernel_rfl) (fun hc1 => ?_) (fun hc1 => ?_)
      · have hlt : i < h.length := by simp only [decide_eq_true_eq] at hc1; omega
        have e1 : ((i : Int) + 1).toNat = i + 1 := by omega
        have hlast : (((stayN h i).1.length : Int) - 1).toNat = (stayN h i).1.length - 1 := by omega
        refine good_run 34 (obs := [(6 : Nat) = (6 : Nat) ∧ (0 : Int) ≤ (↑i : Int) ∧ (↑i : Int) < (↑(List.length h) : Int), (0 : Nat) + (6 : Nat) ≤ (6 : Nat), (6 : Nat) = (6 : Nat) ∧ (0 : Nat) + (6 : Nat) ≤ (6 : Nat), True → InK IntKind.i64 ((↑i : Int) + (1 : Int)), decide ((↑i : Int) + (1 : Int) < (↑(List.length h) : Int)) = true ∧ True → InK IntKind.i64 ((↑i : Int) + (1 : Int)), decide ((↑i : Int) + (1 : Int) < (↑(List.length h) : Int)) = true ∧ True → (6 : Nat) = (6 : Nat) ∧ (0 : Int) ≤ (↑i : Int) + (1 : Int) ∧ (↑i : Int) + (1 : Int) < (↑(List.length h) : Int)]) (by kernel_rfl) (by (first | omega | assumption | exact ⟨rfl, trivial⟩ | simp only [AllP, inK_iff, roomOK_iff, decide_eq_true_eq, Bool.and_eq_true, Bool.or_eq_true, Bool.not_eq_true', decide_eq_false_iff_not, and_true, true_and]; (first | omega | (and_intros <;> intros <;> (try and_intros) <;> first | omega | assumption | exact trivial)))) ?_
        refine good_cond (decide ((↑i : Int) + (1 : Int) < (↑(List.length h) : Int)) && decide ((List.getD h (Int.toNat ((↑i : Int) + (1 : Int))) default).Day = (List.getD h i default).Day)) (by kernel_rfl) (fun hc2 => ?_) (fun hc2 => ?_)
        · have hs : skipS h i = true := by rw [e1] at hc2; unfold skipS; simp only [Bool.and_eq_true, decide_eq_true_eq] at hc2 ⊢; exact ⟨by omega, hc2.2⟩
          have hn : stayN h (i + 1) = stayN h i := by rw [stayN, if_pos hs]
          refine good_run 8 (obs := [InK IntKind.i64 ((↑i : Int) + (1 : Int))]) (by kernel_rfl) (by (first | omega | assumption | exact ⟨rfl, trivial⟩ | simp only [AllP, inK_iff, roomOK_iff, decide_eq_true_eq, Bool.and_eq_true, Bool.or_eq_true, Bool.not_eq_true', decide_eq_false_iff_not, and_true, true_and]; (first | omega | (and_intros <;> intros <;> (try and_intros) <;> first | omega | assumption | exact trivial)))) ?_
          refine good_backJ (i + 1) [List.length (stayN h i).fst = List.length (stayN h (i + (1 : Nat))).fst ∧ ∀ (i_1 : Nat), i_1 < List.length (stayN h i).fst → (fun j => Place.cells (List.getD (stayN h i).fst j default)) i_1 = (fun j => Place.cells (List.getD (stayN h (i + (1 : Nat))).fst j default)) i_1, List.length (stayN h i).snd = List.length (stayN h (i + (1 : Nat))).snd ∧ ∀ (i_1 : Nat), i_1 < List.length (stayN h i).snd → (fun j => Span.cells (List.getD (stayN h i).snd j default)) i_1 = (fun j => Span.cells (List.getD (stayN h (i + (1 : Nat))).snd j default)) i_1, (↑i : Int) + (1 : Int) = (↑(i + (1 : Nat)) : Int), (↑(List.length h) : Int) = (↑(List.length h) : Int), List.length h = List.length h ∧ ∀ (i : Nat), i < List.length h → (fun i => Move.cells (List.getD h i default)) i = (fun i => Move.cells (List.getD h i default)) i, List.length h = List.length h ∧ ∀ (i : Nat), i < List.length h → (fun i => Move.cells (List.getD h i default)) i = (fun i => Move.cells (List.getD h i default)) i] (by kernel_rfl) (by kernel_rfl) ⟨?_, ?_, (by omega), rfl, ⟨rfl, fun _ _ => rfl⟩, ⟨rfl, fun _ _ => rfl⟩, trivial⟩ (by omega) (by show _ < _; omega)
          · rw [hn]; exact ⟨rfl, fun _ _ => rfl⟩
          · rw [hn]; exact ⟨rfl, fun _ _ => rfl⟩
        · have hs : ¬ skipS h i = true := by
            rw [e1] at hc2; unfold skipS
            simp only [Bool.and_eq_true, decide_eq_true_eq, Bool.and_eq_false_iff, decide_eq_false_iff_not] at hc2 ⊢
            rintro ⟨k1, k2⟩
            rcases hc2 with hc2 | hc2
            · omega
            · exact hc2 k2
          have hn : stayN h (i + 1) = stayStep (stayN h i) (h.getD i default) := by rw [stayN, if_neg hs]
          refine good_run 21 (obs := [InK IntKind.i64 ((↑(List.length (stayN h i).fst) : Int) - (1 : Int)), True → (2 : Nat) = (2 : Nat) ∧ (0 : Int) ≤ (↑(List.length (stayN h i).fst) : Int) - (1 : Int) ∧ (↑(List.length (stayN h i).fst) : Int) - (1 : Int) < (↑(List.length (stayN h i).fst) : Int), True → (0 : Nat) + (2 : Nat) ≤ (2 : Nat), True → (4 : Nat) + (2 : Nat) ≤ (6 : Nat), True → EqOK Try.prog (24 : TypeId) (2 : Nat) ∧ (2 : Nat) = (2 : Nat)]) (by kernel_rfl) (by (first | omega | assumption | exact ⟨rfl, trivial⟩ | simp only [AllP, inK_iff, roomOK_iff, decide_eq_true_eq, Bool.and_eq_true, Bool.or_eq_true, Bool.not_eq_true', decide_eq_false_iff_not, and_true, true_and]; (first | omega | (and_intros <;> intros <;> (try and_intros) <;> first | omega | assumption | exact trivial)))) ?_
          refine good_cond (false ^^ decide ([(List.getD (stayN h i).fst (Int.toNat ((↑(List.length (stayN h i).fst) : Int) - (1 : Int))) default).Kind, (List.getD (stayN h i).fst (Int.toNat ((↑(List.length (stayN h i).fst) : Int) - (1 : Int))) default).Of] = [(List.getD h i default).To.Kind, (List.getD h i default).To.Of])) (by kernel_rfl) (fun hc3 => ?_) (fun hc3 => ?_)
          · have hp : (stayN h i).1.getD ((stayN h i).1.length - 1) default = (h.getD i default).To := (place_ints _ _).1 (by rw [hlast] at hc3; simpa using hc3)
            have hn2 : stayN h (i + 1) = stayN h i := by rw [hn, stayStep, if_pos hp]
            refine good_run 8 (obs := [InK IntKind.i64 ((↑i : Int) + (1 : Int))]) (by kernel_rfl) (by (first | omega | assumption | exact ⟨rfl, trivial⟩ | simp only [AllP, inK_iff, roomOK_iff, decide_eq_true_eq, Bool.and_eq_true, Bool.or_eq_true, Bool.not_eq_true', decide_eq_false_iff_not, and_true, true_and]; (first | omega | (and_intros <;> intros <;> (try and_intros) <;> first | omega | assumption | exact trivial)))) ?_
            refine good_backJ (i + 1) [List.length (stayN h i).fst = List.length (stayN h (i + (1 : Nat))).fst ∧ ∀ (i_1 : Nat), i_1 < List.length (stayN h i).fst → (fun j => Place.cells (List.getD (stayN h i).fst j default)) i_1 = (fun j => Place.cells (List.getD (stayN h (i + (1 : Nat))).fst j default)) i_1, List.length (stayN h i).snd = List.length (stayN h (i + (1 : Nat))).snd ∧ ∀ (i_1 : Nat), i_1 < List.length (stayN h i).snd → (fun j => Span.cells (List.getD (stayN h i).snd j default)) i_1 = (fun j => Span.cells (List.getD (stayN h (i + (1 : Nat))).snd j default)) i_1, (↑i : Int) + (1 : Int) = (↑(i + (1 : Nat)) : Int), (↑(List.length h) : Int) = (↑(List.length h) : Int), List.length h = List.length h ∧ ∀ (i : Nat), i < List.length h → (fun i => Move.cells (List.getD h i default)) i = (fun i => Move.cells (List.getD h i default)) i, List.length h = List.length h ∧ ∀ (i : Nat), i < List.length h → (fun i => Move.cells (List.getD h i default)) i = (fun i => Move.cells (List.getD h i default)) i] (by kernel_rfl) (by kernel_rfl) ⟨?_, ?_, (by omega), rfl, ⟨rfl, fun _ _ => rfl⟩, ⟨rfl, fun _ _ => rfl⟩, trivial⟩ (by omega) (by show _ < _; omega)
            · rw [hn2]; exact ⟨rfl, fun _ _ => rfl⟩
            · rw [hn2]; exact ⟨rfl, fun _ _ => rfl⟩
          · have hp : ¬ (stayN h i).1.getD ((stayN h i).1.length - 1) default = (h.getD i default).To := fun hh => by rw [hlast, hh] at hc3; simp at hc3
            refine good_run 14 (obs := [True → (2 : Nat) = (2 : Nat) ∧ (0 : Int) ≤ (↑(List.length (stayN h i).fst) : Int) - (1 : Int) ∧ (↑(List.length (stayN h i).fst) : Int) - (1 : Int) < (↑(List.length (stayN h i).snd) : Int)]) (by kernel_rfl) (by (first | omega | assumption | exact ⟨rfl, trivial⟩ | simp only [AllP, inK_iff, roomOK_iff, decide_eq_true_eq, Bool.and_eq_true, Bool.or_eq_true, Bool.not_eq_true', decide_eq_false_iff_not, and_true, true_and]; (first | omega | (and_intros <;> intros <;> (try and_intros) <;> first | omega | assumption | exact trivial)))) ?_
            refine good_cond (decide ((List.getD (stayN h i).snd (Int.toNat ((↑(List.length (stayN h i).fst) : Int) - (1 : Int))) default).From = (List.getD h i default).Day)) (by kernel_rfl) (fun hc4 => ?_) (fun hc4 => ?_)
            · have hq : ((stayN h i).2.getD ((stayN h i).1.length - 1) default).From = (h.getD i default).Day := by rw [hlast] at hc4; simpa using hc4
              have hn2 : stayN h (i + 1) = ((stayN h i).1.set ((stayN h i).1.length - 1) (h.getD i default).To, (stayN h i).2) := by rw [hn, stayStep, if_neg hp, if_pos hq]
              refine good_run 18 (obs := [(4 : Nat) + (2 : Nat) ≤ (6 : Nat), (2 : Nat) = (2 : Nat) ∧ (0 : Int) ≤ (↑(List.length (stayN h i).fst) : Int) - (1 : Int) ∧ (↑(List.length (stayN h i).fst) : Int) - (1 : Int) < (↑(List.length (stayN h i).fst) : Int), (2 : Nat) = (2 : Nat) ∧ (0 : Nat) + (2 : Nat) ≤ (2 : Nat), InK IntKind.i64 ((↑i : Int) + (1 : Int))]) (by kernel_rfl) (by (first | omega | assumption | exact ⟨rfl, trivial⟩ | simp only [AllP, inK_iff, roomOK_iff, decide_eq_true_eq, Bool.and_eq_true, Bool.or_eq_true, Bool.not_eq_true', decide_eq_false_iff_not, and_true, true_and]; (first | omega | (and_intros <;> intros <;> (try and_intros) <;> first | omega | assumption | exact trivial)))) ?_
              refine good_backJ (i + 1) [List.length (stayN h i).fst = List.length (stayN h (i + (1 : Nat))).fst ∧ ∀ (i_1 : Nat), i_1 < List.length (stayN h i).fst → (fun j => if j = Int.toNat ((↑(List.length (stayN h i).fst) : Int) - (1 : Int)) then lay ((fun j => Place.cells (List.getD (stayN h i).fst j default)) (Int.toNat ((↑(List.length (stayN h i).fst) : Int) - (1 : Int)))) (0 : Nat) [SV.int IntKind.i64 (List.getD h i default).To.Kind, SV.int IntKind.i64 (List.getD h i default).To.Of] else (fun j => Place.cells (List.getD (stayN h i).fst j default)) j) i_1 = (fun j => Place.cells (List.getD (stayN h (i + (1 : Nat))).fst j default)) i_1, List.length (stayN h i).snd = List.length (stayN h (i + (1 : Nat))).snd ∧ ∀ (i_1 : Nat), i_1 < List.length (stayN h i).snd → (fun j => Span.cells (List.getD (stayN h i).snd j default)) i_1 = (fun j => Span.cells (List.getD (stayN h (i + (1 : Nat))).snd j default)) i_1, (↑i : Int) + (1 : Int) = (↑(i + (1 : Nat)) : Int), (↑(List.length h) : Int) = (↑(List.length h) : Int), List.length h = List.length h ∧ ∀ (i : Nat), i < List.length h → (fun i => Move.cells (List.getD h i default)) i = (fun i => Move.cells (List.getD h i default)) i, List.length h = List.length h ∧ ∀ (i : Nat), i < List.length h → (fun i => Move.cells (List.getD h i default)) i = (fun i => Move.cells (List.getD h i default)) i] (by kernel_rfl) (by kernel_rfl) ⟨?_, ?_, (by omega), rfl, ⟨rfl, fun _ _ => rfl⟩, ⟨rfl, fun _ _ => rfl⟩, trivial⟩ (by omega) (by show _ < _; omega)
              · rw [hn2, hlast]
                refine ⟨by simp, fun j hj => ?_⟩
                simp only
                rw [getD_set _ _ _ _ (by omega)]
                split <;> rfl
              · rw [hn2]; exact ⟨rfl, fun _ _ => rfl⟩
            · have hq : ¬ ((stayN h i).2.getD ((stayN h i).1.length - 1) default).From = (h.getD i default).Day := by rw [hlast] at hc4; simpa using hc4
              have hn2 : stayN h (i + 1) = ((stayN h i).1 ++ [(h.getD i default).To], (stayN h i).2.set ((stayN h i).1.length - 1) ⟨((stayN h i).2.getD ((stayN h i).1.length - 1) default).From, (h.getD i default).Day⟩ ++ [⟨(h.getD i default).Day, 1048576⟩]) := by rw [hn, stayStep, if_neg hp, if_neg hq]
              have hj1 := join_snoc Place.cells default (stayN h i).1 (h.getD i default).To 2 rfl
              have hj2 := join_snoc Span.cells default ((stayN h i).2.set ((stayN h i).1.length - 1) ⟨((stayN h i).2.getD ((stayN h i).1.length - 1) default).From, (h.getD i default).Day⟩) ⟨(h.getD i default).Day, 1048576⟩ 2 rfl
              refine good_run 16 (obs := [(2 : Nat) = (2 : Nat) ∧ (0 : Int) ≤ (↑(List.length (stayN h i).fst) : Int) - (1 : Int) ∧ (↑(List.length (stayN h i).fst) : Int) - (1 : Int) < (↑(List.length (stayN h i).snd) : Int), (1 : Nat) = (1 : Nat) ∧ (1 : Nat) + (1 : Nat) ≤ (2 : Nat)]) (by kernel_rfl) (by (first | omega | assumption | exact ⟨rfl, trivial⟩ | simp only [AllP, inK_iff, roomOK_iff, decide_eq_true_eq, Bool.and_eq_true, Bool.or_eq_true, Bool.not_eq_true', decide_eq_false_iff_not, and_true, true_and]; (first | omega | (and_intros <;> intros <;> (try and_intros) <;> first | omega | assumption | exact trivial)))) ?_
              refine good_allB [7, 9, 10, 27, 28, 29] 3 70 [(4 : Nat) + (2 : Nat) ≤ (6 : Nat), (24 : Nat) = (24 : Nat) ∧ (2 : Nat) = (2 : Nat) ∧ (2 : Nat) = (2 : Nat) ∧ roomOK (List.length (stayN h i).fst + (1 : Nat)) (16 : Nat), (50 : Nat) = (50 : Nat) ∧ (2 : Nat) = (2 : Nat) ∧ (2 : Nat) = (2 : Nat) ∧ roomOK (List.length (stayN h i).snd + (1 : Nat)) (16 : Nat)] (by kernel_rfl) (by (first | omega | assumption | exact ⟨rfl, trivial⟩ | simp only [AllP, inK_iff, roomOK_iff, decide_eq_true_eq, Bool.and_eq_true, Bool.or_eq_true, Bool.not_eq_true', decide_eq_false_iff_not, and_true, true_and]; (first | omega | (and_intros <;> intros <;> (try and_intros) <;> first | omega | assumption | exact trivial)))) ?_
              refine good_run 5 (obs := [InK IntKind.i64 ((↑i : Int) + (1 : Int))]) (by kernel_rfl) (by (first | omega | assumption | exact ⟨rfl, trivial⟩ | simp only [AllP, inK_iff, roomOK_iff, decide_eq_true_eq, Bool.and_eq_true, Bool.or_eq_true, Bool.not_eq_true', decide_eq_false_iff_not, and_true, true_and]; (first | omega | (and_intros <;> intros <;> (try and_intros) <;> first | omega | assumption | exact trivial)))) ?_
              refine good_backJ (i + 1) [List.length (stayN h i).fst + (1 : Nat) = List.length (stayN h (i + (1 : Nat))).fst ∧ ∀ (i_1 : Nat), i_1 < List.length (stayN h i).fst + (1 : Nat) → joinGet (List.length (stayN h i).fst) (fun j => Place.cells (List.getD (stayN h i).fst j default)) (cutRows (2 : Nat) [SV.int IntKind.i64 (List.getD h i default).To.Kind, SV.int IntKind.i64 (List.getD h i default).To.Of]) i_1 = (fun j => Place.cells (List.getD (stayN h (i + (1 : Nat))).fst j default)) i_1, List.length (stayN h i).snd + (1 : Nat) = List.length (stayN h (i + (1 : Nat))).snd ∧ ∀ (i_1 : Nat), i_1 < List.length (stayN h i).snd + (1 : Nat) → joinGet (List.length (stayN h i).snd) (fun j => if j = Int.toNat ((↑(List.length (stayN h i).fst) : Int) - (1 : Int)) then lay ((fun j => Span.cells (List.getD (stayN h i).snd j default)) (Int.toNat ((↑(List.length (stayN h i).fst) : Int) - (1 : Int)))) (1 : Nat) [SV.int IntKind.i64 (List.getD h i default).Day] else (fun j => Span.cells (List.getD (stayN h i).snd j default)) j) (cutRows (2 : Nat) [SV.int IntKind.i64 (List.getD h i default).Day, SV.int IntKind.i64 (1048576 : Int)]) i_1 = (fun j => Span.cells (List.getD (stayN h (i + (1 : Nat))).snd j default)) i_1, (↑i : Int) + (1 : Int) = (↑(i + (1 : Nat)) : Int), (↑(List.length h) : Int) = (↑(List.length h) : Int), List.length h = List.length h ∧ ∀ (i : Nat), i < List.length h → (fun i => Move.cells (List.getD h i default)) i = (fun i => Move.cells (List.getD h i default)) i, List.length h = List.length h ∧ ∀ (i : Nat), i < List.length h → (fun i => Move.cells (List.getD h i default)) i = (fun i => Move.cells (List.getD h i default)) i] (by kernel_rfl) (by kernel_rfl) ⟨?_, ?_, (by omega), rfl, ⟨rfl, fun _ _ => rfl⟩, ⟨rfl, fun _ _ => rfl⟩, trivial⟩ (by omega) (by show _ < _; omega)
              · rw [hn2]; exact hj1
              · rw [hn2, hlast]
                simp only [List.length_set] at hj2
                refine ⟨hj2.1, fun j hj => ?_⟩
                refine Eq.trans ?_ (hj2.2 j hj)
                unfold joinGet
                split
                · simp only
                  rw [getD_set _ _ _ _ (by omega)]
                  split <;> rfl
                · rfl
      · have hge : i = h.length := by simp only [decide_eq_false_iff_not] at hc1; omega
        subst hge
        refine good_run 2 (obs := []) (by kernel_rfl) trivial ?_
        refine good_leaveJ (by kernel_rfl) ?_
        refine good_run 11 (obs := []) (by kernel_rfl) trivial ?_
        refine good_fin [List.length (stayN h (List.length h)).fst = List.length ((stayN h (List.length h)).fst, (stayN h (List.length h)).snd, (0 : Int)).fst ∧ ∀ (i : Nat), i < List.length (stayN h (List.length h)).fst → (fun j => Place.cells (List.getD (stayN h (List.length h)).fst j default)) i = (fun i => Place.cells (List.getD ((stayN h (List.length h)).fst, (stayN h (List.length h)).snd, (0 : Int)).fst i default)) i, List.length (stayN h (List.length h)).snd = List.length ((stayN h (List.length h)).fst, (stayN h (List.length h)).snd, (0 : Int)).snd.fst ∧ ∀ (i : Nat), i < List.length (stayN h (List.length h)).snd → (fun j => Span.cells (List.getD (stayN h (List.length h)).snd j default)) i = (fun i => Span.cells (List.getD ((stayN h (List.length h)).fst, (stayN h (List.length h)).snd, (0 : Int)).snd.fst i default)) i, (0 : Int) = (0 : Int)] (by kernel_rfl) ⟨⟨rfl, fun _ _ => rfl⟩, ⟨rfl, fun _ _ => rfl⟩, rfl, trivial⟩
    · have e0 : histF l b = ([], 2) := by rw [histF, if_neg (by simp [hc]), if_neg hb]
      have e : staysF l b = ([], [], 2) := by rw [staysF, if_neg (by simp [hc]), if_neg hb]
      have s25a : Spec Try.prog 25 [moves l, .int .i64 b] (.tup [moves [], .int .i64 2]) := by rwa [e0] at h25
      rw [e]
      refine good_run 11 (obs := []) (by kernel_rfl) trivial ?_
      refine good_call (c := True) (by kernel_rfl) (fun _ => SVles.refl _) (fun _ => s25a) (by kernel_rfl) ?_
      refine good_run 14 (obs := []) (by kernel_rfl) trivial ?_
      refine good_cond true (by kernel_rfl) (fun _ => ?_) (fun h => nomatch h)
      refine good_run 10 (obs := []) (by kernel_rfl) trivial ?_
      refine good_fin [(0 : Nat) = (0 : Nat), (0 : Nat) = (0 : Nat), (2 : Int) = (2 : Int)] (by kernel_rfl) ⟨rfl, rfl, rfl, trivial⟩
  · have e0 : histF l b = ([], 1) := if_pos hc
    have e : staysF l b = ([], [], 1) := if_pos hc
    have s25a : Spec Try.prog 25 [moves l, .int .i64 b] (.tup [moves [], .int .i64 1]) := by rwa [e0] at h25
    rw [e]
    refine good_run 11 (obs := []) (by kernel_rfl) trivial ?_
    refine good_call (c := True) (by kernel_rfl) (fun _ => SVles.refl _) (fun _ => s25a) (by kernel_rfl) ?_
    refine good_run 14 (obs := []) (by kernel_rfl) trivial ?_
    refine good_cond true (by kernel_rfl) (fun _ => ?_) (fun h => nomatch h)
    refine good_run 10 (obs := []) (by kernel_rfl) trivial ?_
    refine good_fin [(0 : Nat) = (0 : Nat), (0 : Nat) = (0 : Nat), (1 : Int) = (1 : Int)] (by kernel_rfl) ⟨rfl, rfl, rfl, trivial⟩
end Go.Sx.T
