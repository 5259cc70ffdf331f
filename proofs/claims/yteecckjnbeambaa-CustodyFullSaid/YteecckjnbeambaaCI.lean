/- Contracts of functions of the program, each proved by running its code symbolically (CI). -/
import Derived.Test.YteecckjnbeambaaCH
namespace Go.Sx.T
open Go Go.Proofs Go.Sx
set_option maxRecDepth 100000
set_option maxHeartbeats 4000000
set_option linter.unusedVariables false
set_option linter.unusedSimpArgs false
theorem join_snoc {α : Type} (c : α → List SV) (d : α) (l : List α) (x : α) (sz : Nat) (hs : (c x).length = sz) : l.length + 1 = (l ++ [x]).length ∧ ∀ i, i < l.length + 1 → joinGet l.length (fun i => c (l.getD i d)) (cutRows sz (c x)) i = c ((l ++ [x]).getD i d) := by
  refine ⟨by simp, fun i hi => ?_⟩
  unfold joinGet
  split
  · rename_i h; simp only; rw [getD_append_left _ _ _ h]
  · rename_i h
    have : i = l.length := by omega
    subst this
    rw [Nat.sub_self, cutRows_one sz _ hs, getD_append_right _ _ _ (Nat.le_refl _), Nat.sub_self]
    rfl
def appendL (l : List Move) (m : Move) : List Move × Int := if checkL l ≠ 0 then ([], 1) else if l.length = 1024 then ([], 12) else if formE l m ≠ 0 then ([], formE l m) else (l ++ [m], 0)
theorem s12 (l : List Move) (m : Move) : Spec Try.prog 12 [moves l, m.sv] (.tup [moves (appendL l m).1, .int .i64 (appendL l m).2]) := by
  refine spec_of_good mixed Try.func12 F12_ok (by kernel_rfl) ?_
  refine good_run 10 (obs := []) (by kernel_rfl) trivial ?_
  refine good_callx [] [] (s34x l) (by kernel_rfl) (by kernel_rfl) [] [List.length l = List.length l ∧ ∀ (i : Nat), i < List.length l → (fun i => Move.cells (List.getD l i default)) i = (fun i => Move.cells (List.getD l i default)) i] (by kernel_rfl) trivial (by kernel_rfl) ⟨⟨rfl, fun _ _ => rfl⟩, trivial⟩ ?_
  rintro _ ⟨b, c, l', h, rfl⟩
  refine ⟨trivial, ?_⟩
  refine good_run 16 (obs := []) (by kernel_rfl) trivial ?_
  refine good_cond (!decide (checkL l = (0 : Int))) (by kernel_rfl) (fun hc1 => ?_) (fun hc1 => ?_)
  · have e : appendL l m = ([], 1) := if_pos (by simpa using hc1)
    rw [e]
    refine good_run 9 (obs := []) (by kernel_rfl) trivial ?_
    refine good_fin [(0 : Nat) = (0 : Nat), (1 : Int) = (1 : Int)] (by kernel_rfl) ⟨rfl, rfl, trivial⟩
  · have hc : checkL l = 0 := by simpa using hc1
    have hl' := h hc
    subst hl'
    have hll := ((checkL_iff l').1 hc).1
    refine good_run 8 (obs := []) (by kernel_rfl) trivial ?_
    refine good_cond (decide ((↑(List.length l') : Int) = (1024 : Int))) (by kernel_rfl) (fun hc2 => ?_) (fun hc2 => ?_)
    · have hf : l'.length = 1024 := by simp only [decide_eq_true_eq] at hc2; omega
      have e : appendL l' m = ([], 12) := by rw [appendL, if_neg (by simp [hc]), if_pos hf]
      rw [e]
      refine good_run 9 (obs := []) (by kernel_rfl) trivial ?_
      refine good_fin [(0 : Nat) = (0 : Nat), (12 : Int) = (12 : Int)] (by kernel_rfl) ⟨rfl, rfl, trivial⟩
    · have hf : ¬ l'.length = 1024 := by simp only [decide_eq_false_iff_not] at hc2; omega
      refine good_run 7 (obs := [(0 : Nat) + (6 : Nat) ≤ (6 : Nat)]) (by kernel_rfl) (by (first | omega | assumption | exact ⟨rfl, trivial⟩ | exact ⟨rfl, rfl, trivial⟩ | exact ⟨rfl, rfl, rfl, rfl, rfl, trivial⟩ | simp only [AllP, inK_iff, roomOK_iff, decide_eq_true_eq, Bool.and_eq_true, Bool.or_eq_true, Bool.not_eq_true', decide_eq_false_iff_not, and_true, true_and]; (first | omega | (and_intros <;> intros <;> (try and_intros) <;> first | omega | assumption | exact trivial)))) ?_
      refine good_ref 21 2 (Value.pointer (some { block := c, off := (0 : Nat) })) (by kernel_rfl) ?_
      refine good_callx [2, 1] [0, 1] (s35x (two c b) l' m) (by kernel_rfl) (by kernel_rfl) [SVle (SV.val (Value.map (some b))) (SV.val (two c b (1 : Nat))), dayL l' = dayL l', Value.pointer (some { block := c, off := (0 : Nat) }) = two c b (0 : Nat), zP = zP, keysL l' = keysL l' ∧ ∀ (k : Int), (fun k => Place.sv (lastP l' k)) k = (fun k => Place.sv (lastP l' k)) k, Value.map (some b) = two c b ((0 : Nat) + (1 : Nat))] [m.Day = m.Day, m.Box = m.Box, m.From.Kind = m.From.Kind, m.From.Of = m.From.Of, m.To.Kind = m.To.Kind, m.To.Of = m.To.Of] (by kernel_rfl) ⟨?_, rfl, ?_, rfl, ⟨rfl, fun _ => rfl⟩, ?_, trivial⟩ (by kernel_rfl) ⟨rfl, rfl, rfl, rfl, rfl, rfl, trivial⟩ ?_
      · exact SVle.refl _
      · rfl
      · rfl
      rintro _ rfl
      refine ⟨⟨rfl, rfl, trivial⟩, ?_⟩
      refine good_run 9 (obs := []) (by kernel_rfl) trivial ?_
      refine good_cond (!decide (formE l' m = (0 : Int))) (by kernel_rfl) (fun hc3 => ?_) (fun hc3 => ?_)
      · have e : appendL l' m = ([], formE l' m) := by rw [appendL, if_neg (by simp [hc]), if_neg hf, if_pos (by simpa using hc3)]
        rw [e]
        refine good_run 9 (obs := []) (by kernel_rfl) trivial ?_
        refine good_fin [(0 : Nat) = (0 : Nat), formE l' m = formE l' m] (by kernel_rfl) ⟨rfl, rfl, trivial⟩
      · have hz : formE l' m = 0 := by simpa using hc3
        have e : appendL l' m = (l' ++ [m], 0) := by rw [appendL, if_neg (by simp [hc]), if_neg hf, if_neg (by simp [hz])]
        rw [e]
        have hj := join_snoc Move.cells default l' m 6 rfl
        refine good_run 5 (obs := []) (by kernel_rfl) trivial ?_
        refine good_pick [1, 2] (by kernel_rfl) ⟨?_, ?_, trivial⟩
        refine good_own (c := True) (by kernel_rfl) (by kernel_rfl) (SVles.refl _) (s13 (List.length l') (fun i => Move.cells (List.getD l' i default)) (by (first | omega | assumption | exact ⟨rfl, trivial⟩ | exact ⟨rfl, rfl, trivial⟩ | exact ⟨rfl, rfl, rfl, rfl, rfl, trivial⟩ | simp only [AllP, inK_iff, roomOK_iff, decide_eq_true_eq, Bool.and_eq_true, Bool.or_eq_true, Bool.not_eq_true', decide_eq_false_iff_not, and_true, true_and]; (first | omega | (and_intros <;> intros <;> (try and_intros) <;> first | omega | assumption | exact trivial))))) ?_
        refine good_run 19 (obs := [(0 : Nat) + (6 : Nat) ≤ (6 : Nat), (26 : Nat) = (26 : Nat) ∧ (6 : Nat) = (6 : Nat) ∧ (6 : Nat) = (6 : Nat) ∧ roomOK (List.length l' + (1 : Nat)) (48 : Nat)]) (by kernel_rfl) (by (first | omega | assumption | exact ⟨rfl, trivial⟩ | exact ⟨rfl, rfl, trivial⟩ | exact ⟨rfl, rfl, rfl, rfl, rfl, trivial⟩ | simp only [AllP, inK_iff, roomOK_iff, decide_eq_true_eq, Bool.and_eq_true, Bool.or_eq_true, Bool.not_eq_true', decide_eq_false_iff_not, and_true, true_and]; (first | omega | (and_intros <;> intros <;> (try and_intros) <;> first | omega | assumption | exact trivial)))) ?_
        refine good_fin [List.length l' + (1 : Nat) = List.length (l' ++ [m], (0 : Int)).fst ∧ ∀ (i : Nat), i < List.length l' + (1 : Nat) → joinGet (List.length l') (fun i => Move.cells (List.getD l' i default)) (cutRows (6 : Nat) [SV.int IntKind.i64 m.Day, SV.int IntKind.i64 m.Box, SV.int IntKind.i64 m.From.Kind, SV.int IntKind.i64 m.From.Of, SV.int IntKind.i64 m.To.Kind, SV.int IntKind.i64 m.To.Of]) i = (fun i => Move.cells (List.getD (l' ++ [m], (0 : Int)).fst i default)) i, (0 : Int) = (0 : Int)] (by kernel_rfl) ⟨?_, rfl, trivial⟩
        rotate_left 1
        refine good_run 2 (obs := [(0 : Nat) + (6 : Nat) ≤ (6 : Nat)]) (by kernel_rfl) (by (first | omega | assumption | exact ⟨rfl, trivial⟩ | exact ⟨rfl, rfl, trivial⟩ | exact ⟨rfl, rfl, rfl, rfl, rfl, trivial⟩ | simp only [AllP, inK_iff, roomOK_iff, decide_eq_true_eq, Bool.and_eq_true, Bool.or_eq_true, Bool.not_eq_true', decide_eq_false_iff_not, and_true, true_and]; (first | omega | (and_intros <;> intros <;> (try and_intros) <;> first | omega | assumption | exact trivial)))) ?_
        refine good_pick [1, 3] (by kernel_rfl) ⟨?_, ?_, trivial⟩
        refine good_own (c := True) (by kernel_rfl) (by kernel_rfl) (SVles.refl _) (s13 (List.length l') (fun i => Move.cells (List.getD l' i default)) (by (first | omega | assumption | exact ⟨rfl, trivial⟩ | exact ⟨rfl, rfl, trivial⟩ | exact ⟨rfl, rfl, rfl, rfl, rfl, trivial⟩ | simp only [AllP, inK_iff, roomOK_iff, decide_eq_true_eq, Bool.and_eq_true, Bool.or_eq_true, Bool.not_eq_true', decide_eq_false_iff_not, and_true, true_and]; (first | omega | (and_intros <;> intros <;> (try and_intros) <;> first | omega | assumption | exact trivial))))) ?_
        refine good_run 16 (obs := [(26 : Nat) = (26 : Nat) ∧ (6 : Nat) = (6 : Nat) ∧ (6 : Nat) = (6 : Nat) ∧ roomOK (List.length l' + (1 : Nat)) (48 : Nat)]) (by kernel_rfl) (by (first | omega | assumption | exact ⟨rfl, trivial⟩ | exact ⟨rfl, rfl, trivial⟩ | exact ⟨rfl, rfl, rfl, rfl, rfl, trivial⟩ | simp only [AllP, inK_iff, roomOK_iff, decide_eq_true_eq, Bool.and_eq_true, Bool.or_eq_true, Bool.not_eq_true', decide_eq_false_iff_not, and_true, true_and]; (first | omega | (and_intros <;> intros <;> (try and_intros) <;> first | omega | assumption | exact trivial)))) ?_
        refine good_fin [List.length l' + (1 : Nat) = List.length (l' ++ [m], (0 : Int)).fst ∧ ∀ (i : Nat), i < List.length l' + (1 : Nat) → joinGet (List.length l') (fun i => Move.cells (List.getD l' i default)) (cutRows (6 : Nat) [SV.int IntKind.i64 m.Day, SV.int IntKind.i64 m.Box, SV.int IntKind.i64 m.From.Kind, SV.int IntKind.i64 m.From.Of, SV.int IntKind.i64 m.To.Kind, SV.int IntKind.i64 m.To.Of]) i = (fun i => Move.cells (List.getD (l' ++ [m], (0 : Int)).fst i default)) i, (0 : Int) = (0 : Int)] (by kernel_rfl) ⟨?_, rfl, trivial⟩
        rotate_left 1
        refine good_run 3 (obs := []) (by kernel_rfl) trivial ?_
        refine good_own (c := True) (by kernel_rfl) (by kernel_rfl) (SVles.refl _) (s13 (List.length l') (fun i => Move.cells (List.getD l' i default)) (by (first | omega | assumption | exact ⟨rfl, trivial⟩ | exact ⟨rfl, rfl, trivial⟩ | exact ⟨rfl, rfl, rfl, rfl, rfl, trivial⟩ | simp only [AllP, inK_iff, roomOK_iff, decide_eq_true_eq, Bool.and_eq_true, Bool.or_eq_true, Bool.not_eq_true', decide_eq_false_iff_not, and_true, true_and]; (first | omega | (and_intros <;> intros <;> (try and_intros) <;> first | omega | assumption | exact trivial))))) ?_
        refine good_run 13 (obs := [(26 : Nat) = (26 : Nat) ∧ (6 : Nat) = (6 : Nat) ∧ (6 : Nat) = (6 : Nat) ∧ roomOK (List.length l' + (1 : Nat)) (48 : Nat)]) (by kernel_rfl) (by (first | omega | assumption | exact ⟨rfl, trivial⟩ | exact ⟨rfl, rfl, trivial⟩ | exact ⟨rfl, rfl, rfl, rfl, rfl, trivial⟩ | simp only [AllP, inK_iff, roomOK_iff, decide_eq_true_eq, Bool.and_eq_true, Bool.or_eq_true, Bool.not_eq_true', decide_eq_false_iff_not, and_true, true_and]; (first | omega | (and_intros <;> intros <;> (try and_intros) <;> first | omega | assumption | exact trivial)))) ?_
        refine good_fin [List.length l' + (1 : Nat) = List.length (l' ++ [m], (0 : Int)).fst ∧ ∀ (i : Nat), i < List.length l' + (1 : Nat) → joinGet (List.length l') (fun i => Move.cells (List.getD l' i default)) (cutRows (6 : Nat) [SV.int IntKind.i64 m.Day, SV.int IntKind.i64 m.Box, SV.int IntKind.i64 m.From.Kind, SV.int IntKind.i64 m.From.Of, SV.int IntKind.i64 m.To.Kind, SV.int IntKind.i64 m.To.Of]) i = (fun i => Move.cells (List.getD (l' ++ [m], (0 : Int)).fst i default)) i, (0 : Int) = (0 : Int)] (by kernel_rfl) ⟨?_, rfl, trivial⟩
        rotate_left 1
        all_goals exact hj
/-! The stays of a box. -/
def skipS (h : List Move) (i : Nat) : Bool := decide (i + 1 < h.length) && decide ((h.getD (i + 1) default).Day = (h.getD i default).Day)
def stayStep (q : List Place × List Span) (m : Move) : List Place × List Span :=
  if q.1.getD (q.1.length - 1) default = m.To then q else if (q.2.getD (q.1.length - 1) default).From = m.Day then (q.1.set (q.1.length - 1) m.To, q.2)
  else (q.1 ++ [m.To], q.2.set (q.1.length - 1) ⟨(q.2.getD (q.1.length - 1) default).From, m.Day⟩ ++ [⟨m.Day, 1048576⟩])
def stayN (h : List Move) : Nat → List Place × List Span
  | 0 => ([⟨0, 0⟩], [⟨0, 1048576⟩])
  | i + 1 => if skipS h i = true then stayN h i else stayStep (stayN h i) (h.getD i default)
def staysF (l : List Move) (b : Int) : List Place × List Span × Int := if checkL l ≠ 0 then ([], [], 1) else if okId b = true then ((stayN (histL l b) (histL l b).length).1, (stayN (histL l b) (histL l b).length).2, 0) else ([], [], 2)
theorem stayStep_len (q : List Place × List Span) (m : Move) (h : q.1.length = q.2.length) : (stayStep q m).1.length = (stayStep q m).2.length ∧ q.1.length ≤ (stayStep q m).1.length ∧ (stayStep q m).1.length ≤ q.1.length + 1 := by
  unfold stayStep
  split
  · exact ⟨h, Nat.le_refl _, by omega⟩
  · split
    · simp [h]
    · simp [h]
theorem stayN_len (h : List Move) : ∀ i, (stayN h i).1.length = (stayN h i).2.length ∧ 1 ≤ (stayN h i).1.length ∧ (stayN h i).1.length ≤ i + 1
  | 0 => by simp [stayN]
  | i + 1 => by
    obtain ⟨h1, h2, h3⟩ := stayN_len h i
    obtain ⟨k1, k2, k3⟩ := stayStep_len (stayN h i) (h.getD i default) h1
    rw [stayN]
    split
    · exact ⟨h1, h2, by omega⟩
    · exact ⟨k1, by omega, by omega⟩
theorem s23 (l : List Move) (b : Int) : Spec Try.prog 23 [moves l, .int .i64 b] (.tup [places (staysF l b).1, spans (staysF l b).2.1, .int .i64 (staysF l b).2.2]) := by
  refine spec_of_good mixed Try.func23 F23_ok (by kernel_rfl) ?_
  have heq := eq24
  refine good_run 12 (obs := []) (by kernel_rfl) trivial ?_
  refine good_call (c := True) (by kernel_rfl) (fun _ => SVles.refl _) (fun _ => s15 (l)) (by kernel_rfl) ?_
  refine good_run 4 (obs := []) (by kernel_rfl) trivial ?_
  refine good_cond (!decide (checkL l = (0 : Int))) (by kernel_rfl) (fun hc1 => ?_) (fun hc1 => ?_)
  · have e : staysF l b = ([], [], 1) := if_pos (by simpa using hc1)
    rw [e]
    refine good_run 10 (obs := []) (by kernel_rfl) trivial ?_
    refine good_fin [(0 : Nat) = (0 : Nat), (0 : Nat) = (0 : Nat), (1 : Int) = (1 : Int)] (by kernel_rfl) ⟨rfl, rfl, rfl, trivial⟩
  · have hc : checkL l = 0 := by simpa using hc1
    have hll := ((checkL_iff l).1 hc).1
    refine good_run 3 (obs := []) (by kernel_rfl) trivial ?_
    refine good_call (c := True) (by kernel_rfl) (fun _ => SVles.refl _) (fun _ => s37 (b)) (by kernel_rfl) ?_
    refine good_run 4 (obs := []) (by kernel_rfl) trivial ?_
    refine good_cond (!okId b) (by kernel_rfl) (fun hc2 => ?_) (fun hc2 => ?_)
    · have e : staysF l b = ([], [], 2) := by rw [staysF, if_neg (by simp [hc]), if_neg (by simpa using hc2)]
      rw [e]
      refine good_run 10 (obs := []) (by kernel_rfl) trivial ?_
      refine good_fin [(0 : Nat) = (0 : Nat), (0 : Nat) = (0 : Nat), (2 : Int) = (2 : Int)] (by kernel_rfl) ⟨rfl, rfl, rfl, trivial⟩
    · have e : staysF l b = ((stayN (histL l b) (histL l b).length).1, (stayN (histL l b) (histL l b).length).2, 0) := by rw [staysF, if_neg (by simp [hc]), if_pos (by simpa using hc2)]
      have hhl : (histL l b).length ≤ l.length := List.length_filter_le _ _
      rw [e]
      refine good_run 16 (obs := []) (by kernel_rfl) trivial ?_
      refine good_row 0 (t := (24 : Nat)) (sz := (2 : Nat)) (n := (1 : Nat)) (mu := true) (get := cutRows (2 : Nat) [SV.val (Value.int IntKind.i64 (Int.ofNat (0 : Nat))), SV.val (Value.int IntKind.i64 (Int.ofNat (0 : Nat)))]) (fun i => (([⟨0, 0⟩] : List Place).getD i default).cells) (by kernel_rfl) (fun i hi => by obtain rfl : i = 0 := (by omega); exact ⟨svle_val_int _ _, svle_val_int _ _, trivial⟩) ?_
      refine good_row 1 (t := (50 : Nat)) (sz := (2 : Nat)) (n := (1 : Nat)) (mu := true) (get := cutRows (2 : Nat) [SV.val (Value.int IntKind.i64 (Int.ofNat (0 : Nat))), SV.int IntKind.i64 (1048576 : Int)]) (fun i => (([⟨0, 1048576⟩] : List Span).getD i default).cells) (by kernel_rfl) (fun i hi => by obtain rfl : i = 0 := (by omega); exact ⟨svle_val_int _ _, SVle.refl _, trivial⟩) ?_
      refine good_own (c := True) (by kernel_rfl) (by kernel_rfl) (SVles.refl _) (s45 (l) (b) (by (first | omega | assumption | exact ⟨rfl, trivial⟩ | exact ⟨rfl, rfl, trivial⟩ | exact ⟨rfl, rfl, rfl, rfl, rfl, trivial⟩ | simp only [AllP, inK_iff, roomOK_iff, decide_eq_true_eq, Bool.and_eq_true, Bool.or_eq_true, Bool.not_eq_true', decide_eq_false_iff_not, and_true, true_and]; (first | omega | (and_intros <;> intros <;> (try and_intros) <;> first | omega | assumption | exact trivial))))) ?_
      refine good_run 12 (obs := []) (by kernel_rfl) trivial ?_
      generalize histL l b = h at *
      refine good_loopJ (fun i : Nat => ⟨[(30, .sv (.int .i64 (i))), (8, .own 1), (7, .own 0), (29, LV.sv (SV.int IntKind.i64 (↑(List.length h) : Int))), (28, LV.own (2 : Nat)), (9, LV.own (2 : Nat))], [.row 24 2 (stayN h i).1.length true fun j => ((stayN h i).1.getD j default).cells, .row 50 2 (stayN h i).2.length true fun j => ((stayN h i).2.getD j default).cells, Blk.row (26 : Nat) (6 : Nat) (List.length h) true fun i => Move.cells (List.getD h i default)]⟩) (fun i => i ≤ h.length) (fun i => h.length - i) (0) [(1 : Nat) = (1 : Nat) ∧ ∀ (i : Nat), i < (1 : Nat) → (fun i => Place.cells (List.getD [{ Kind := (0 : Int), Of := (0 : Int) }] i default)) i = (fun j => Place.cells (List.getD (stayN h (0 : Nat)).fst j default)) i, (1 : Nat) = (1 : Nat) ∧ ∀ (i : Nat), i < (1 : Nat) → (fun i => Span.cells (List.getD [{ From := (0 : Int), Until := (1048576 : Int) }] i default)) i = (fun j => Span.cells (List.getD (stayN h (0 : Nat)).snd j default)) i, List.length h = List.length h ∧ ∀ (i : Nat), i < List.length h → (fun i => Move.cells (List.getD h i default)) i = (fun i => Move.cells (List.getD h i default)) i, (0 : Int) = (0 : Int), (↑(List.length h) : Int) = (↑(List.length h) : Int)] (by kernel_rfl) (by kernel_rfl) ⟨?_, ?_, ⟨rfl, fun _ _ => rfl⟩, rfl, rfl, trivial⟩ (by omega) ?_
      · exact ⟨rfl, fun _ _ => rfl⟩
      · exact ⟨rfl, fun _ _ => rfl⟩
      intro i hi
      obtain ⟨n1, n2, n3⟩ := stayN_len h i
      refine good_run 6 (obs := []) (by kernel_rfl) trivial ?_
      refine good_cond (decide ((↑i : Int) < (↑(List.length h) : Int))) (by kernel_rfl) (fun hc3 => ?_) (fun hc3 => ?_)
      · have hlt : i < h.length := by simp only [decide_eq_true_eq] at hc3; omega
        have e1 : ((i : Int) + 1).toNat = i + 1 := by omega
        have hlast : (((stayN h i).1.length : Int) - 1).toNat = (stayN h i).1.length - 1 := by omega
        refine good_run 34 (obs := [(6 : Nat) = (6 : Nat) ∧ (0 : Int) ≤ (↑i : Int) ∧ (↑i : Int) < (↑(List.length h) : Int), (0 : Nat) + (6 : Nat) ≤ (6 : Nat), (6 : Nat) = (6 : Nat) ∧ (0 : Nat) + (6 : Nat) ≤ (6 : Nat), True → InK IntKind.i64 ((↑i : Int) + (1 : Int)), decide ((↑i : Int) + (1 : Int) < (↑(List.length h) : Int)) = true ∧ True → InK IntKind.i64 ((↑i : Int) + (1 : Int)), decide ((↑i : Int) + (1 : Int) < (↑(List.length h) : Int)) = true ∧ True → (6 : Nat) = (6 : Nat) ∧ (0 : Int) ≤ (↑i : Int) + (1 : Int) ∧ (↑i : Int) + (1 : Int) < (↑(List.length h) : Int)]) (by kernel_rfl) (by (first | omega | assumption | exact ⟨rfl, trivial⟩ | exact ⟨rfl, rfl, trivial⟩ | exact ⟨rfl, rfl, rfl, rfl, rfl, trivial⟩ | simp only [AllP, inK_iff, roomOK_iff, decide_eq_true_eq, Bool.and_eq_true, Bool.or_eq_true, Bool.not_eq_true', decide_eq_false_iff_not, and_true, true_and]; (first | omega | (and_intros <;> intros <;> (try and_intros) <;> first | omega | assumption | exact trivial)))) ?_
        refine good_cond (decide ((↑i : Int) + (1 : Int) < (↑(List.length h) : Int)) && decide ((List.getD h (Int.toNat ((↑i : Int) + (1 : Int))) default).Day = (List.getD h i default).Day)) (by kernel_rfl) (fun hc4 => ?_) (fun hc4 => ?_)
        · have hs : skipS h i = true := by rw [e1] at hc4; unfold skipS; simp only [Bool.and_eq_true, decide_eq_true_eq] at hc4 ⊢; exact ⟨by omega, hc4.2⟩
          have hn : stayN h (i + 1) = stayN h i := by rw [stayN, if_pos hs]
          refine good_run 8 (obs := [InK IntKind.i64 ((↑i : Int) + (1 : Int))]) (by kernel_rfl) (by (first | omega | assumption | exact ⟨rfl, trivial⟩ | exact ⟨rfl, rfl, trivial⟩ | exact ⟨rfl, rfl, rfl, rfl, rfl, trivial⟩ | simp only [AllP, inK_iff, roomOK_iff, decide_eq_true_eq, Bool.and_eq_true, Bool.or_eq_true, Bool.not_eq_true', decide_eq_false_iff_not, and_true, true_and]; (first | omega | (and_intros <;> intros <;> (try and_intros) <;> first | omega | assumption | exact trivial)))) ?_
          refine good_backJ (i + 1) [List.length (stayN h i).fst = List.length (stayN h (i + (1 : Nat))).fst ∧ ∀ (i_1 : Nat), i_1 < List.length (stayN h i).fst → (fun j => Place.cells (List.getD (stayN h i).fst j default)) i_1 = (fun j => Place.cells (List.getD (stayN h (i + (1 : Nat))).fst j default)) i_1, List.length (stayN h i).snd = List.length (stayN h (i + (1 : Nat))).snd ∧ ∀ (i_1 : Nat), i_1 < List.length (stayN h i).snd → (fun j => Span.cells (List.getD (stayN h i).snd j default)) i_1 = (fun j => Span.cells (List.getD (stayN h (i + (1 : Nat))).snd j default)) i_1, List.length h = List.length h ∧ ∀ (i : Nat), i < List.length h → (fun i => Move.cells (List.getD h i default)) i = (fun i => Move.cells (List.getD h i default)) i, (↑i : Int) + (1 : Int) = (↑(i + (1 : Nat)) : Int), (↑(List.length h) : Int) = (↑(List.length h) : Int)] (by kernel_rfl) (by kernel_rfl) ⟨?_, ?_, ⟨rfl, fun _ _ => rfl⟩, (by omega), rfl, trivial⟩ (by omega) (by show _ < _; omega)
          · rw [hn]; exact ⟨rfl, fun _ _ => rfl⟩
          · rw [hn]; exact ⟨rfl, fun _ _ => rfl⟩
        · have hs : ¬ skipS h i = true := by
            rw [e1] at hc4; unfold skipS
            simp only [Bool.and_eq_true, decide_eq_true_eq, Bool.and_eq_false_iff, decide_eq_false_iff_not] at hc4 ⊢
            rintro ⟨k1, k2⟩
            rcases hc4 with hc4 | hc4
            · omega
            · exact hc4 k2
          have hn : stayN h (i + 1) = stayStep (stayN h i) (h.getD i default) := by rw [stayN, if_neg hs]
          refine good_run 22 (obs := [InK IntKind.i64 ((↑(List.length (stayN h i).fst) : Int) - (1 : Int)), True → (2 : Nat) = (2 : Nat) ∧ (0 : Int) ≤ (↑(List.length (stayN h i).fst) : Int) - (1 : Int) ∧ (↑(List.length (stayN h i).fst) : Int) - (1 : Int) < (↑(List.length (stayN h i).fst) : Int), True → (0 : Nat) + (2 : Nat) ≤ (2 : Nat), True → (4 : Nat) + (2 : Nat) ≤ (6 : Nat), True → EqOK Try.prog (24 : TypeId) (2 : Nat) ∧ (2 : Nat) = (2 : Nat)]) (by kernel_rfl) (by (first | omega | assumption | exact ⟨rfl, trivial⟩ | exact ⟨rfl, rfl, trivial⟩ | exact ⟨rfl, rfl, rfl, rfl, rfl, trivial⟩ | simp only [AllP, inK_iff, roomOK_iff, decide_eq_true_eq, Bool.and_eq_true, Bool.or_eq_true, Bool.not_eq_true', decide_eq_false_iff_not, and_true, true_and]; (first | omega | (and_intros <;> intros <;> (try and_intros) <;> first | omega | assumption | exact trivial)))) ?_
          refine good_cond (false ^^ decide ([(List.getD (stayN h i).fst (Int.toNat ((↑(List.length (stayN h i).fst) : Int) - (1 : Int))) default).Kind, (List.getD (stayN h i).fst (Int.toNat ((↑(List.length (stayN h i).fst) : Int) - (1 : Int))) default).Of] = [(List.getD h i default).To.Kind, (List.getD h i default).To.Of])) (by kernel_rfl) (fun hc5 => ?_) (fun hc5 => ?_)
          · have hp : (stayN h i).1.getD ((stayN h i).1.length - 1) default = (h.getD i default).To := (place_ints _ _).1 (by rw [hlast] at hc5; simpa using hc5)
            have hn2 : stayN h (i + 1) = stayN h i := by rw [hn, stayStep, if_pos hp]
            refine good_run 8 (obs := [InK IntKind.i64 ((↑i : Int) + (1 : Int))]) (by kernel_rfl) (by (first | omega | assumption | exact ⟨rfl, trivial⟩ | exact ⟨rfl, rfl, trivial⟩ | exact ⟨rfl, rfl, rfl, rfl, rfl, trivial⟩ | simp only [AllP, inK_iff, roomOK_iff, decide_eq_true_eq, Bool.and_eq_true, Bool.or_eq_true, Bool.not_eq_true', decide_eq_false_iff_not, and_true, true_and]; (first | omega | (and_intros <;> intros <;> (try and_intros) <;> first | omega | assumption | exact trivial)))) ?_
            refine good_backJ (i + 1) [List.length (stayN h i).fst = List.length (stayN h (i + (1 : Nat))).fst ∧ ∀ (i_1 : Nat), i_1 < List.length (stayN h i).fst → (fun j => Place.cells (List.getD (stayN h i).fst j default)) i_1 = (fun j => Place.cells (List.getD (stayN h (i + (1 : Nat))).fst j default)) i_1, List.length (stayN h i).snd = List.length (stayN h (i + (1 : Nat))).snd ∧ ∀ (i_1 : Nat), i_1 < List.length (stayN h i).snd → (fun j => Span.cells (List.getD (stayN h i).snd j default)) i_1 = (fun j => Span.cells (List.getD (stayN h (i + (1 : Nat))).snd j default)) i_1, List.length h = List.length h ∧ ∀ (i : Nat), i < List.length h → (fun i => Move.cells (List.getD h i default)) i = (fun i => Move.cells (List.getD h i default)) i, (↑i : Int) + (1 : Int) = (↑(i + (1 : Nat)) : Int), (↑(List.length h) : Int) = (↑(List.length h) : Int)] (by kernel_rfl) (by kernel_rfl) ⟨?_, ?_, ⟨rfl, fun _ _ => rfl⟩, (by omega), rfl, trivial⟩ (by omega) (by show _ < _; omega)
            · rw [hn2]; exact ⟨rfl, fun _ _ => rfl⟩
            · rw [hn2]; exact ⟨rfl, fun _ _ => rfl⟩
          · have hp : ¬ (stayN h i).1.getD ((stayN h i).1.length - 1) default = (h.getD i default).To := fun hh => by rw [hlast, hh] at hc5; simp at hc5
            refine good_run 13 (obs := [True → (2 : Nat) = (2 : Nat) ∧ (0 : Int) ≤ (↑(List.length (stayN h i).fst) : Int) - (1 : Int) ∧ (↑(List.length (stayN h i).fst) : Int) - (1 : Int) < (↑(List.length (stayN h i).snd) : Int)]) (by kernel_rfl) (by (first | omega | assumption | exact ⟨rfl, trivial⟩ | exact ⟨rfl, rfl, trivial⟩ | exact ⟨rfl, rfl, rfl, rfl, rfl, trivial⟩ | simp only [AllP, inK_iff, roomOK_iff, decide_eq_true_eq, Bool.and_eq_true, Bool.or_eq_true, Bool.not_eq_true', decide_eq_false_iff_not, and_true, true_and]; (first | omega | (and_intros <;> intros <;> (try and_intros) <;> first | omega | assumption | exact trivial)))) ?_
            refine good_cond (decide ((List.getD (stayN h i).snd (Int.toNat ((↑(List.length (stayN h i).fst) : Int) - (1 : Int))) default).From = (List.getD h i default).Day)) (by kernel_rfl) (fun hc6 => ?_) (fun hc6 => ?_)
            · have hq : ((stayN h i).2.getD ((stayN h i).1.length - 1) default).From = (h.getD i default).Day := by rw [hlast] at hc6; simpa using hc6
              have hn2 : stayN h (i + 1) = ((stayN h i).1.set ((stayN h i).1.length - 1) (h.getD i default).To, (stayN h i).2) := by rw [hn, stayStep, if_neg hp, if_pos hq]
              refine good_run 16 (obs := [(4 : Nat) + (2 : Nat) ≤ (6 : Nat), (2 : Nat) = (2 : Nat) ∧ (0 : Int) ≤ (↑(List.length (stayN h i).fst) : Int) - (1 : Int) ∧ (↑(List.length (stayN h i).fst) : Int) - (1 : Int) < (↑(List.length (stayN h i).fst) : Int), (2 : Nat) = (2 : Nat) ∧ (0 : Nat) + (2 : Nat) ≤ (2 : Nat), InK IntKind.i64 ((↑i : Int) + (1 : Int))]) (by kernel_rfl) (by (first | omega | assumption | exact ⟨rfl, trivial⟩ | exact ⟨rfl, rfl, trivial⟩ | exact ⟨rfl, rfl, rfl, rfl, rfl, trivial⟩ | simp only [AllP, inK_iff, roomOK_iff, decide_eq_true_eq, Bool.and_eq_true, Bool.or_eq_true, Bool.not_eq_true', decide_eq_false_iff_not, and_true, true_and]; (first | omega | (and_intros <;> intros <;> (try and_intros) <;> first | omega | assumption | exact trivial)))) ?_
              refine good_backJ (i + 1) [List.length (stayN h i).fst = List.length (stayN h (i + (1 : Nat))).fst ∧ ∀ (i_1 : Nat), i_1 < List.length (stayN h i).fst → (fun j => if j = Int.toNat ((↑(List.length (stayN h i).fst) : Int) - (1 : Int)) then lay ((fun j => Place.cells (List.getD (stayN h i).fst j default)) (Int.toNat ((↑(List.length (stayN h i).fst) : Int) - (1 : Int)))) (0 : Nat) [SV.int IntKind.i64 (List.getD h i default).To.Kind, SV.int IntKind.i64 (List.getD h i default).To.Of] else (fun j => Place.cells (List.getD (stayN h i).fst j default)) j) i_1 = (fun j => Place.cells (List.getD (stayN h (i + (1 : Nat))).fst j default)) i_1, List.length (stayN h i).snd = List.length (stayN h (i + (1 : Nat))).snd ∧ ∀ (i_1 : Nat), i_1 < List.length (stayN h i).snd → (fun j => Span.cells (List.getD (stayN h i).snd j default)) i_1 = (fun j => Span.cells (List.getD (stayN h (i + (1 : Nat))).snd j default)) i_1, List.length h = List.length h ∧ ∀ (i : Nat), i < List.length h → (fun i => Move.cells (List.getD h i default)) i = (fun i => Move.cells (List.getD h i default)) i, (↑i : Int) + (1 : Int) = (↑(i + (1 : Nat)) : Int), (↑(List.length h) : Int) = (↑(List.length h) : Int)] (by kernel_rfl) (by kernel_rfl) ⟨?_, ?_, ⟨rfl, fun _ _ => rfl⟩, (by omega), rfl, trivial⟩ (by omega) (by show _ < _; omega)
              · rw [hn2, hlast]
                refine ⟨by simp, fun j hj => ?_⟩
                simp only
                rw [getD_set _ _ _ _ (by omega)]
                split <;> rfl
              · rw [hn2]; exact ⟨rfl, fun _ _ => rfl⟩
            · have hq : ¬ ((stayN h i).2.getD ((stayN h i).1.length - 1) default).From = (h.getD i default).Day := by rw [hlast] at hc6; simpa using hc6
              have hn2 : stayN h (i + 1) = ((stayN h i).1 ++ [(h.getD i default).To], (stayN h i).2.set ((stayN h i).1.length - 1) ⟨((stayN h i).2.getD ((stayN h i).1.length - 1) default).From, (h.getD i default).Day⟩ ++ [⟨(h.getD i default).Day, 1048576⟩]) := by rw [hn, stayStep, if_neg hp, if_neg hq]
              have hj1 := join_snoc Place.cells default (stayN h i).1 (h.getD i default).To 2 rfl
              have hj2 := join_snoc Span.cells default ((stayN h i).2.set ((stayN h i).1.length - 1) ⟨((stayN h i).2.getD ((stayN h i).1.length - 1) default).From, (h.getD i default).Day⟩) ⟨(h.getD i default).Day, 1048576⟩ 2 rfl
              refine good_run 15 (obs := [(2 : Nat) = (2 : Nat) ∧ (0 : Int) ≤ (↑(List.length (stayN h i).fst) : Int) - (1 : Int) ∧ (↑(List.length (stayN h i).fst) : Int) - (1 : Int) < (↑(List.length (stayN h i).snd) : Int), (1 : Nat) = (1 : Nat) ∧ (1 : Nat) + (1 : Nat) ≤ (2 : Nat)]) (by kernel_rfl) (by (first | omega | assumption | exact ⟨rfl, trivial⟩ | exact ⟨rfl, rfl, trivial⟩ | exact ⟨rfl, rfl, rfl, rfl, rfl, trivial⟩ | simp only [AllP, inK_iff, roomOK_iff, decide_eq_true_eq, Bool.and_eq_true, Bool.or_eq_true, Bool.not_eq_true', decide_eq_false_iff_not, and_true, true_and]; (first | omega | (and_intros <;> intros <;> (try and_intros) <;> first | omega | assumption | exact trivial)))) ?_
              refine good_allB [7, 8, 9, 28, 29, 30] 4 70 [(4 : Nat) + (2 : Nat) ≤ (6 : Nat), (24 : Nat) = (24 : Nat) ∧ (2 : Nat) = (2 : Nat) ∧ (2 : Nat) = (2 : Nat) ∧ roomOK (List.length (stayN h i).fst + (1 : Nat)) (16 : Nat), (50 : Nat) = (50 : Nat) ∧ (2 : Nat) = (2 : Nat) ∧ (2 : Nat) = (2 : Nat) ∧ roomOK (List.length (stayN h i).snd + (1 : Nat)) (16 : Nat)] (by kernel_rfl) (by (first | omega | assumption | exact ⟨rfl, trivial⟩ | exact ⟨rfl, rfl, trivial⟩ | exact ⟨rfl, rfl, rfl, rfl, rfl, trivial⟩ | simp only [AllP, inK_iff, roomOK_iff, decide_eq_true_eq, Bool.and_eq_true, Bool.or_eq_true, Bool.not_eq_true', decide_eq_false_iff_not, and_true, true_and]; (first | omega | (and_intros <;> intros <;> (try and_intros) <;> first | omega | assumption | exact trivial)))) ?_
              refine good_run 5 (obs := [InK IntKind.i64 ((↑i : Int) + (1 : Int))]) (by kernel_rfl) (by (first | omega | assumption | exact ⟨rfl, trivial⟩ | exact ⟨rfl, rfl, trivial⟩ | exact ⟨rfl, rfl, rfl, rfl, rfl, trivial⟩ | simp only [AllP, inK_iff, roomOK_iff, decide_eq_true_eq, Bool.and_eq_true, Bool.or_eq_true, Bool.not_eq_true', decide_eq_false_iff_not, and_true, true_and]; (first | omega | (and_intros <;> intros <;> (try and_intros) <;> first | omega | assumption | exact trivial)))) ?_
              refine good_backJ (i + 1) [List.length (stayN h i).fst + (1 : Nat) = List.length (stayN h (i + (1 : Nat))).fst ∧ ∀ (i_1 : Nat), i_1 < List.length (stayN h i).fst + (1 : Nat) → joinGet (List.length (stayN h i).fst) (fun j => Place.cells (List.getD (stayN h i).fst j default)) (cutRows (2 : Nat) [SV.int IntKind.i64 (List.getD h i default).To.Kind, SV.int IntKind.i64 (List.getD h i default).To.Of]) i_1 = (fun j => Place.cells (List.getD (stayN h (i + (1 : Nat))).fst j default)) i_1, List.length (stayN h i).snd + (1 : Nat) = List.length (stayN h (i + (1 : Nat))).snd ∧ ∀ (i_1 : Nat), i_1 < List.length (stayN h i).snd + (1 : Nat) → joinGet (List.length (stayN h i).snd) (fun j => if j = Int.toNat ((↑(List.length (stayN h i).fst) : Int) - (1 : Int)) then lay ((fun j => Span.cells (List.getD (stayN h i).snd j default)) (Int.toNat ((↑(List.length (stayN h i).fst) : Int) - (1 : Int)))) (1 : Nat) [SV.int IntKind.i64 (List.getD h i default).Day] else (fun j => Span.cells (List.getD (stayN h i).snd j default)) j) (cutRows (2 : Nat) [SV.int IntKind.i64 (List.getD h i default).Day, SV.int IntKind.i64 (1048576 : Int)]) i_1 = (fun j => Span.cells (List.getD (stayN h (i + (1 : Nat))).snd j default)) i_1, List.length h = List.length h ∧ ∀ (i : Nat), i < List.length h → (fun i => Move.cells (List.getD h i default)) i = (fun i => Move.cells (List.getD h i default)) i, (↑i : Int) + (1 : Int) = (↑(i + (1 : Nat)) : Int), (↑(List.length h) : Int) = (↑(List.length h) : Int)] (by kernel_rfl) (by kernel_rfl) ⟨?_, ?_, ⟨rfl, fun _ _ => rfl⟩, (by omega), rfl, trivial⟩ (by omega) (by show _ < _; omega)
              · rw [hn2]; exact hj1
              · rw [hn2, hlast]
                simp only [List.length_set] at hj2
                refine ⟨hj2.1, fun j hj => ?_⟩
                refine Eq.trans ?_ (hj2.2 j hj)
                unfold joinGet
                split
                · simp only
                  rw [getD_set _ _ _ _ (by omega)]
                  split <;> rfl
                · rfl
      · have hge : i = h.length := by simp only [decide_eq_false_iff_not] at hc3; omega
        subst hge
        refine good_run 2 (obs := []) (by kernel_rfl) trivial ?_
        refine good_leaveJ (by kernel_rfl) ?_
        refine good_run 11 (obs := []) (by kernel_rfl) trivial ?_
        refine good_fin [List.length (stayN h (List.length h)).fst = List.length ((stayN h (List.length h)).fst, (stayN h (List.length h)).snd, (0 : Int)).fst ∧ ∀ (i : Nat), i < List.length (stayN h (List.length h)).fst → (fun j => Place.cells (List.getD (stayN h (List.length h)).fst j default)) i = (fun i => Place.cells (List.getD ((stayN h (List.length h)).fst, (stayN h (List.length h)).snd, (0 : Int)).fst i default)) i, List.length (stayN h (List.length h)).snd = List.length ((stayN h (List.length h)).fst, (stayN h (List.length h)).snd, (0 : Int)).snd.fst ∧ ∀ (i : Nat), i < List.length (stayN h (List.length h)).snd → (fun j => Span.cells (List.getD (stayN h (List.length h)).snd j default)) i = (fun i => Span.cells (List.getD ((stayN h (List.length h)).fst, (stayN h (List.length h)).snd, (0 : Int)).snd.fst i default)) i, (0 : Int) = (0 : Int)] (by kernel_rfl) ⟨⟨rfl, fun _ _ => rfl⟩, ⟨rfl, fun _ _ => rfl⟩, rfl, trivial⟩
end Go.Sx.T
