/- Contracts of functions of the program, each proved by running its code symbolically (CD). -/
import Derived.Test.YteecckjnbeambaaCB
namespace Go.Sx.T
open Go Go.Proofs Go.Sx
set_option maxRecDepth 100000
set_option maxHeartbeats 4000000
set_option linter.unusedVariables false
set_option linter.unusedSimpArgs false
def errAt (l : List Move) (k : Nat) : Int := formE (l.take k) (l.getD k default)
def checkL (l : List Move) : Int := if 1024 < l.length then 8 else errFrom (errAt l) l.length 0
def two (c b : Nat) (i : Nat) : Value := if i = 0 then .pointer (some ⟨c, 0, none⟩) else .map (some b)
def readOut (l : List Move) (o : Out) : Prop := ∃ b c l', (checkL l = 0 → l' = l) ∧ o = ⟨[.ptr 1 0, .sv (.int .i64 (checkL l))], [mapL l', cellsL (.map (some b)) l'], [(0, .map (some b)), (1, .pointer (some ⟨c, 0, none⟩))]⟩
theorem s34x (l : List Move) : SpecX Try.prog 34 (fun _ => undef) [.sv (moves l)] [] (readOut l) := by
  refine specX_of_good mixed Try.func34 F34_ok (by kernel_rfl) (by kernel_rfl) (by kernel_rfl) ?_
  refine good_run 9 (obs := []) (by kernel_rfl) trivial ?_
  refine good_tagMap 0 (z := Value.agg { toList := [Value.int IntKind.i64 (Int.ofNat (0 : Nat)), Value.int IntKind.i64 (Int.ofNat (0 : Nat))] }) (ks := []) (get := fun x => valSV (Value.agg { toList := [Value.int IntKind.i64 (Int.ofNat (0 : Nat)), Value.int IntKind.i64 (Int.ofNat (0 : Nat))] })) (by kernel_rfl) (fun b => ?_)
  refine good_val 8 0 (Value.map (some b)) (by kernel_rfl) ?_
  refine good_run 13 (obs := []) (by kernel_rfl) trivial ?_
  refine good_cond (decide ((1024 : Int) < (↑(List.length l) : Int))) (by kernel_rfl) (fun hc1 => ?_) (fun hc1 => ?_)
  · have e : checkL l = 8 := by simp only [decide_eq_true_eq] at hc1; rw [checkL, if_pos (by omega)]
    refine good_run 2 (obs := []) (by kernel_rfl) trivial ?_
    refine good_tagCells 1 (t := (70 : Nat)) (mu := true) (cs := [SV.val (Value.map (some b)), SV.val (Value.int IntKind.i64 (Int.ofNat (0 : Nat)))]) (by kernel_rfl) (fun c => ?_)
    refine good_run 7 (obs := []) (by kernel_rfl) trivial ?_
    refine good_finX (⟨[.ptr 1 0, .sv (.int .i64 8)], [mapL [], cellsL (.map (some b)) []], [(0, .map (some b)), (1, .pointer (some ⟨c, 0, none⟩))]⟩) (⟨b, c, [], by rw [e]; simp, by rw [e]⟩) [Value.agg { toList := [Value.int IntKind.i64 (Int.ofNat (0 : Nat)), Value.int IntKind.i64 (Int.ofNat (0 : Nat))] } = zP, ([] : List Int) = keysL [] ∧ ∀ (k : Int), (fun x => valSV (Value.agg { toList := [Value.int IntKind.i64 (Int.ofNat (0 : Nat)), Value.int IntKind.i64 (Int.ofNat (0 : Nat))] })) k = (fun k => Place.sv (lastP [] k)) k, SVle (SV.val (Value.map (some b))) (SV.val (Value.map (some b))), (0 : Int) = dayL [], (8 : Int) = (8 : Int), Value.map (some b) = ((0 : Nat), Value.map (some b)).snd, Value.pointer (some { block := c, off := (0 : Nat) }) = ((1 : Nat), Value.pointer (some { block := c, off := (0 : Nat) })).snd] (by kernel_rfl) ⟨?_, ?_, SVle.refl _, (by rfl), rfl, rfl, rfl, trivial⟩
    · rfl
    · exact ⟨rfl, fun _ => rfl⟩
  · have hck : checkL l = errFrom (errAt l) l.length 0 := by simp only [decide_eq_false_iff_not] at hc1; rw [checkL, if_neg (by omega)]
    simp only [decide_eq_false_iff_not] at hc1
    refine good_run 4 (obs := []) (by kernel_rfl) trivial ?_
    refine good_tagCells 1 (t := (70 : Nat)) (mu := true) (cs := [SV.val (Value.map (some b)), SV.val (Value.int IntKind.i64 (Int.ofNat (0 : Nat)))]) (by kernel_rfl) (fun c => ?_)
    refine good_run 6 (obs := []) (by kernel_rfl) trivial ?_
    refine good_loopJ (fun k : Nat => ⟨[(17, .sv (.int .i64 (k))), (16, LV.sv (SV.int IntKind.i64 (↑(List.length l) : Int))), (15, LV.sv (SV.lst (6 : Nat) (List.length l) fun i => Move.cells (List.getD l i default))), (2000001, LV.isv (1 : Nat) (Value.pointer (some { block := c, off := (0 : Nat) }))), (4, LV.ptr (1 : Nat) (0 : Nat)), (2000000, LV.isv (0 : Nat) (Value.map (some b)))], [mapL (l.take k), cellsL (.map (some b)) (l.take k)]⟩) (fun k => k ≤ l.length ∧ checkL l = errFrom (errAt l) (l.length - k) k) (fun k => l.length - k) (0) [Value.agg { toList := [Value.int IntKind.i64 (Int.ofNat (0 : Nat)), Value.int IntKind.i64 (Int.ofNat (0 : Nat))] } = zP, ([] : List Int) = [] ∧ ∀ (k : Int), (fun x => valSV (Value.agg { toList := [Value.int IntKind.i64 (Int.ofNat (0 : Nat)), Value.int IntKind.i64 (Int.ofNat (0 : Nat))] })) k = (fun k => Place.sv (lastP (List.take (0 : Nat) l) k)) k, SVle (SV.val (Value.map (some b))) (SV.val (Value.map (some b))), (0 : Int) = dayL [], (0 : Int) = (0 : Int), (↑(List.length l) : Int) = (↑(List.length l) : Int), List.length l = List.length l ∧ ∀ (i : Nat), i < List.length l → (fun i => Move.cells (List.getD l i default)) i = (fun i => Move.cells (List.getD l i default)) i, Value.pointer (some { block := c, off := (0 : Nat) }) = Value.pointer (some { block := c, off := (0 : Nat) }), Value.map (some b) = Value.map (some b)] (by kernel_rfl) (by kernel_rfl) ⟨?_, ?_, SVle.refl _, (by rfl), rfl, rfl, ⟨rfl, fun _ _ => rfl⟩, rfl, rfl, trivial⟩ ⟨by omega, by omega⟩ ?_
    · rfl
    · exact ⟨rfl, fun _ => rfl⟩
    intro k hk
    refine good_run 6 (obs := []) (by kernel_rfl) trivial ?_
    refine good_cond (decide ((↑k : Int) < (↑(List.length l) : Int))) (by kernel_rfl) (fun hc2 => ?_) (fun hc2 => ?_)
    · have hlt : k < l.length := by simp only [decide_eq_true_eq] at hc2; omega
      refine good_run 15 (obs := [(6 : Nat) = (6 : Nat) ∧ (0 : Int) ≤ (↑k : Int) ∧ (↑k : Int) < (↑(List.length l) : Int), (0 : Nat) + (6 : Nat) ≤ (6 : Nat), (6 : Nat) = (6 : Nat) ∧ (0 : Nat) + (6 : Nat) ≤ (6 : Nat), (0 : Nat) + (6 : Nat) ≤ (6 : Nat)]) (by kernel_rfl) (by (first | omega | assumption | exact ⟨rfl, trivial⟩ | exact ⟨rfl, rfl, trivial⟩ | exact ⟨rfl, rfl, rfl, rfl, rfl, trivial⟩ | simp only [AllP, inK_iff, roomOK_iff, decide_eq_true_eq, Bool.and_eq_true, Bool.or_eq_true, Bool.not_eq_true', decide_eq_false_iff_not, and_true, true_and]; (first | omega | (and_intros <;> intros <;> (try and_intros) <;> first | omega | assumption | exact trivial)))) ?_
      refine good_callx [1, 0] [0, 1] (s35x (two c b) (l.take k) (l.getD k default)) (by kernel_rfl) (by kernel_rfl) [SVle (SV.val (Value.map (some b))) (SV.val (two c b (1 : Nat))), dayL (List.take k l) = dayL (List.take k l), Value.pointer (some { block := c, off := (0 : Nat) }) = two c b (0 : Nat), zP = zP, keysL (List.take k l) = keysL (List.take k l) ∧ ∀ (k_1 : Int), (fun k_2 => Place.sv (lastP (List.take k l) k_2)) k_1 = (fun k_2 => Place.sv (lastP (List.take k l) k_2)) k_1, Value.map (some b) = two c b ((0 : Nat) + (1 : Nat))] [(List.getD l k default).Day = (List.getD l k default).Day, (List.getD l k default).Box = (List.getD l k default).Box, (List.getD l k default).From.Kind = (List.getD l k default).From.Kind, (List.getD l k default).From.Of = (List.getD l k default).From.Of, (List.getD l k default).To.Kind = (List.getD l k default).To.Kind, (List.getD l k default).To.Of = (List.getD l k default).To.Of] (by kernel_rfl) ⟨?_, rfl, ?_, rfl, ⟨rfl, fun _ => rfl⟩, ?_, trivial⟩ (by kernel_rfl) ⟨rfl, rfl, rfl, rfl, rfl, rfl, trivial⟩ ?_
      · exact SVle.refl _
      · rfl
      · rfl
      rintro _ rfl
      refine ⟨⟨rfl, rfl, trivial⟩, ?_⟩
      have hst := errFrom_step (errAt l) l.length k hlt
      refine good_run 9 (obs := []) (by kernel_rfl) trivial ?_
      refine good_cond (!decide (formE (List.take k l) (List.getD l k default) = (0 : Int))) (by kernel_rfl) (fun hc3 => ?_) (fun hc3 => ?_)
      · have hne : errAt l k ≠ 0 := by simpa [errAt] using hc3
        have e : checkL l = formE (l.take k) (l.getD k default) := by rw [hk.2, hst, if_pos hne]; rfl
        refine good_run 11 (obs := []) (by kernel_rfl) trivial ?_
        refine good_leaveJ (by kernel_rfl) ?_
        refine good_run 2 (obs := []) (by kernel_rfl) trivial ?_
        refine good_finX (⟨[.ptr 1 0, .sv (.int .i64 (formE (l.take k) (l.getD k default)))], [mapL (behind (l.take k) (l.getD k default)), cellsL (.map (some b)) (behind (l.take k) (l.getD k default))], [(0, .map (some b)), (1, .pointer (some ⟨c, 0, none⟩))]⟩) (⟨b, c, behind (l.take k) (l.getD k default), fun h => absurd (e.symm.trans h) hne, by rw [e]⟩) [zP = zP, keysL (behind (List.take k l) (List.getD l k default)) = keysL (behind (List.take k l) (List.getD l k default)) ∧ ∀ (k_1 : Int), (fun k_2 => Place.sv (lastP (behind (List.take k l) (List.getD l k default)) k_2)) k_1 = (fun k_2 => Place.sv (lastP (behind (List.take k l) (List.getD l k default)) k_2)) k_1, SVle (SV.val (two c b (1 : Nat))) (SV.val (Value.map (some b))), dayL (behind (List.take k l) (List.getD l k default)) = dayL (behind (List.take k l) (List.getD l k default)), formE (List.take k l) (List.getD l k default) = formE (List.take k l) (List.getD l k default), two c b (1 : Nat) = ((0 : Nat), Value.map (some b)).snd, two c b (0 : Nat) = ((1 : Nat), Value.pointer (some { block := c, off := (0 : Nat) })).snd] (by kernel_rfl) ⟨rfl, ⟨rfl, fun _ => rfl⟩, ?_, rfl, rfl, ?_, ?_, trivial⟩
        all_goals first | rfl | exact SVle.refl _ | exact ⟨hlt, by rw [hk.2, hst, if_neg (fun h => h h0)]⟩
      · have h0 : errAt l k = 0 := by simpa [errAt] using hc3
        have hb : behind (l.take k) (l.getD k default) = l.take (k + 1) := by rw [behind, if_pos (show formE _ _ = 0 from h0), take_snoc l default k hlt]
        rw [hb]
        refine good_run 7 (obs := [InK IntKind.i64 ((↑k : Int) + (1 : Int))]) (by kernel_rfl) (by (first | omega | assumption | exact ⟨rfl, trivial⟩ | exact ⟨rfl, rfl, trivial⟩ | exact ⟨rfl, rfl, rfl, rfl, rfl, trivial⟩ | simp only [AllP, inK_iff, roomOK_iff, decide_eq_true_eq, Bool.and_eq_true, Bool.or_eq_true, Bool.not_eq_true', decide_eq_false_iff_not, and_true, true_and]; (first | omega | (and_intros <;> intros <;> (try and_intros) <;> first | omega | assumption | exact trivial)))) ?_
        refine good_backJ (k + 1) [zP = zP, keysL (List.take (k + (1 : Nat)) l) = keysL (List.take (k + (1 : Nat)) l) ∧ ∀ (k_1 : Int), (fun k_2 => Place.sv (lastP (List.take (k + (1 : Nat)) l) k_2)) k_1 = (fun k_2 => Place.sv (lastP (List.take (k + (1 : Nat)) l) k_2)) k_1, SVle (SV.val (two c b (1 : Nat))) (SV.val (Value.map (some b))), dayL (List.take (k + (1 : Nat)) l) = dayL (List.take (k + (1 : Nat)) l), (↑k : Int) + (1 : Int) = (↑(k + (1 : Nat)) : Int), (↑(List.length l) : Int) = (↑(List.length l) : Int), List.length l = List.length l ∧ ∀ (i : Nat), i < List.length l → (fun i => Move.cells (List.getD l i default)) i = (fun i => Move.cells (List.getD l i default)) i, two c b (0 : Nat) = Value.pointer (some { block := c, off := (0 : Nat) }), two c b (1 : Nat) = Value.map (some b)] (by kernel_rfl) (by kernel_rfl) ⟨rfl, ⟨rfl, fun _ => rfl⟩, ?_, rfl, (by omega), rfl, ⟨rfl, fun _ _ => rfl⟩, ?_, ?_, trivial⟩ (by omega) (by show _ < _; omega)
        all_goals first | rfl | exact SVle.refl _ | exact ⟨hlt, by rw [hk.2, hst, if_neg (fun h => h h0)]⟩
    · have hge : k = l.length := by simp only [decide_eq_false_iff_not] at hc2; omega
      subst hge
      have e : checkL l = 0 := by rw [hk.2, errFrom_end]
      rw [List.take_length]
      refine good_run 2 (obs := []) (by kernel_rfl) trivial ?_
      refine good_leaveJ (by kernel_rfl) ?_
      refine good_run 9 (obs := []) (by kernel_rfl) trivial ?_
      refine good_finX (⟨[.ptr 1 0, .sv (.int .i64 0)], [mapL l, cellsL (.map (some b)) l], [(0, .map (some b)), (1, .pointer (some ⟨c, 0, none⟩))]⟩) (⟨b, c, l, fun _ => rfl, by rw [e]⟩) [zP = zP, keysL l = keysL l ∧ ∀ (k : Int), (fun k => Place.sv (lastP l k)) k = (fun k => Place.sv (lastP l k)) k, SVle (SV.val (Value.map (some b))) (SV.val (Value.map (some b))), dayL l = dayL l, (0 : Int) = (0 : Int), Value.map (some b) = ((0 : Nat), Value.map (some b)).snd, Value.pointer (some { block := c, off := (0 : Nat) }) = ((1 : Nat), Value.pointer (some { block := c, off := (0 : Nat) })).snd] (by kernel_rfl) ⟨rfl, ⟨rfl, fun _ => rfl⟩, SVle.refl _, rfl, rfl, rfl, rfl, trivial⟩
theorem s15 (l : List Move) : Spec Try.prog 15 [moves l] (.int .i64 (checkL l)) := by
  refine spec_of_good mixed Try.func15 F15_ok (by kernel_rfl) ?_
  refine good_run 8 (obs := []) (by kernel_rfl) trivial ?_
  refine good_callx [] [] (s34x l) (by kernel_rfl) (by kernel_rfl) [] [List.length l = List.length l ∧ ∀ (i : Nat), i < List.length l → (fun i => Move.cells (List.getD l i default)) i = (fun i => Move.cells (List.getD l i default)) i] (by kernel_rfl) trivial (by kernel_rfl) ⟨⟨rfl, fun _ _ => rfl⟩, trivial⟩ ?_
  rintro _ ⟨b, c, l', h, rfl⟩
  refine ⟨trivial, ?_⟩
  refine good_run 14 (obs := []) (by kernel_rfl) trivial ?_
  refine good_fin [checkL l = checkL l] (by kernel_rfl) ⟨rfl, trivial⟩
end Go.Sx.T
