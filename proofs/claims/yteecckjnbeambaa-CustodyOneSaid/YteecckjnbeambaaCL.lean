/- Contracts of functions of the program, each proved by running its code symbolically (CL). -/
import Derived.Test.YteecckjnbeambaaCK
namespace Go.Sx.T
open Go Go.Proofs Go.Sx
set_option maxRecDepth 100000
set_option maxHeartbeats 4000000
set_option linter.unusedVariables false
set_option linter.unusedSimpArgs false
def boxesF (l : List Move) : List Int × Int := if checkL l ≠ 0 then ([], 1) else (isort (keysL l), 0)
theorem keysL_mem (l : List Move) (x : Int) : x ∈ keysL l ↔ x ∈ l.map Move.Box := by
  induction l using rev_ind with
  | h0 => simp [keysL]
  | h1 l m ih => rw [keysL_snoc, putKey_mem, ih, List.map_append, List.mem_append]; simp [eq_comm]
theorem sorted_keys {ks : List Int} (h : ks.Nodup) : (isort ks).Pairwise (· < ·) := by
  have h1 := isort_sorted ks
  have h2 : (isort ks).Nodup := (isort_perm ks).nodup_iff.2 h
  exact (h1.and h2).imp fun ⟨a, b⟩ => by omega
theorem box_pos {l : List Move} (hc : checkL l = 0) : ∀ x ∈ l.map Move.Box, 0 < x ∧ x ≤ 1073741824 := by
  intro x hx
  obtain ⟨m, hm, rfl⟩ := List.mem_map.1 hx
  obtain ⟨k, hk, e⟩ := List.mem_iff_getElem.1 hm
  have h := (checkL_at hc hk).ok
  rw [getD_of_lt l k hk, e] at h
  simp only [okMove, okId, Bool.and_eq_true, decide_eq_true_eq] at h
  omega
theorem next_box {l : List Move} (hc : checkL l = 0) {k : Nat} (hk : k ≤ (isort (keysL l)).length) : nextI (l.map Move.Box) ((isort (keysL l)).take k) = if k < (isort (keysL l)).length then (isort (keysL l)).getD k 0 else 0 :=
  nextI_take (fun x hx => (box_pos hc x hx).1) (sorted_keys (keysL_nodup l)) (fun x => by rw [(isort_perm _).mem_iff, keysL_mem]) hk
theorem box_take (l : List Move) (j : Nat) (hj : j < l.length) (out : List Int) : nextI ((l.take (j + 1)).map Move.Box) out = nextStep out (nextI ((l.take j).map Move.Box) out) (l.getD j default).Box := by
  rw [take_snoc l default j hj, List.map_append]
  exact nextI_snoc _ _ _
theorem s27 (l : List Move) : Spec Try.prog 27 [moves l] (.tup [ints (boxesF l).1, .int .i64 (boxesF l).2]) := by
  refine spec_of_good mixed Try.func27 F27_ok (by kernel_rfl) ?_
  refine good_run 10 (obs := []) (by kernel_rfl) trivial ?_
  refine good_call (c := True) (by kernel_rfl) (fun _ => SVles.refl _) (fun _ => s16 (l)) (by kernel_rfl) ?_
  refine good_run 3 (obs := []) (by kernel_rfl) trivial ?_
  refine good_cond (!decide (checkL l = (0 : Int))) (by kernel_rfl) (fun hc1 => ?_) (fun hc1 => ?_)
  · have e : boxesF l = ([], 1) := if_pos (by simpa using hc1)
    rw [e]
    refine good_run 8 (obs := []) (by kernel_rfl) trivial ?_
    refine good_fin [(0 : Nat) = (0 : Nat), (1 : Int) = (1 : Int)] (by kernel_rfl) ⟨rfl, rfl, trivial⟩
  · have hc : checkL l = 0 := by simpa using hc1
    have hll := ((checkL_iff l).1 hc).1
    have e : boxesF l = (isort (keysL l), 0) := if_neg (by simp [hc])
    have hnx := @next_box l hc
    have hsl : (isort (keysL l)).length ≤ 1024 := by rw [isort_length]; have := keysL_len l; omega
    have hpos : ∀ k, k < (isort (keysL l)).length → 0 < (isort (keysL l)).getD k 0 := fun k hk => (box_pos hc _ (by rw [← keysL_mem, ← (isort_perm _).mem_iff]; exact getD_mem _ 0 k hk)).1
    rw [e]
    generalize isort (keysL l) = S at *
    refine good_run 7 (obs := []) (by kernel_rfl) trivial ?_
    refine good_loopJ (fun k : Nat => ⟨[(4, .own 0), (0, LV.sv (SV.lst (6 : Nat) (List.length l) fun i => Move.cells (List.getD l i default)))], [.row 3 1 (S.take k).length true fun i => [.int .i64 ((S.take k).getD i 0)]]⟩) (fun k => k ≤ S.length) (fun k => S.length - k) (0) [(0 : Nat) = (0 : Nat), List.length l = List.length l ∧ ∀ (i : Nat), i < List.length l → (fun i => Move.cells (List.getD l i default)) i = (fun i => Move.cells (List.getD l i default)) i] (by kernel_rfl) (by kernel_rfl) ⟨rfl, ⟨rfl, fun _ _ => rfl⟩, trivial⟩ (by omega) ?_
    intro k hk
    have hnk := hnx hk
    have htk : (S.take k).length = k := by rw [List.length_take]; omega
    refine good_run 15 (obs := []) (by kernel_rfl) trivial ?_
    refine good_loopJ (fun j : Nat => ⟨[(13, .sv (.int .i64 (j))), (5, .sv (.int .i64 ((nextI ((l.take j).map Move.Box) (S.take k))))), (12, LV.sv (SV.int IntKind.i64 (↑(List.length l) : Int))), (11, LV.sv (SV.lst (6 : Nat) (List.length l) fun i => Move.cells (List.getD l i default))), (4, LV.own (0 : Nat)), (0, LV.sv (SV.lst (6 : Nat) (List.length l) fun i => Move.cells (List.getD l i default)))], [Blk.row (3 : Nat) (1 : Nat) (List.length (List.take k S)) true fun i => [SV.int IntKind.i64 (List.getD (List.take k S) i (0 : Int))]]⟩) (fun j => j ≤ l.length) (fun j => l.length - j) (0) [List.length (List.take k S) = List.length (List.take k S) ∧ ∀ (i : Nat), i < List.length (List.take k S) → (fun i => [SV.int IntKind.i64 (List.getD (List.take k S) i (0 : Int))]) i = (fun i => [SV.int IntKind.i64 (List.getD (List.take k S) i (0 : Int))]) i, (0 : Int) = (0 : Int), (0 : Int) = nextI [] (List.take k S), (↑(List.length l) : Int) = (↑(List.length l) : Int), List.length l = List.length l ∧ ∀ (i : Nat), i < List.length l → (fun i => Move.cells (List.getD l i default)) i = (fun i => Move.cells (List.getD l i default)) i, List.length l = List.length l ∧ ∀ (i : Nat), i < List.length l → (fun i => Move.cells (List.getD l i default)) i = (fun i => Move.cells (List.getD l i default)) i] (by kernel_rfl) (by kernel_rfl) ⟨⟨rfl, fun _ _ => rfl⟩, rfl, (by rfl), rfl, ⟨rfl, fun _ _ => rfl⟩, ⟨rfl, fun _ _ => rfl⟩, trivial⟩ (by omega) ?_
    intro j hj
    refine good_run 6 (obs := []) (by kernel_rfl) trivial ?_
    refine good_cond (decide ((↑j : Int) < (↑(List.length l) : Int))) (by kernel_rfl) (fun hc2 => ?_) (fun hc2 => ?_)
    · have hlt : j < l.length := by simp only [decide_eq_true_eq] at hc2; omega
      have hst := box_take l j hlt (S.take k)
      refine good_run 39 (obs := [(6 : Nat) = (6 : Nat) ∧ (0 : Int) ≤ (↑j : Int) ∧ (↑j : Int) < (↑(List.length l) : Int), (0 : Nat) + (6 : Nat) ≤ (6 : Nat), (6 : Nat) = (6 : Nat) ∧ (0 : Nat) + (6 : Nat) ≤ (6 : Nat), decide ((↑(List.length (List.take k S)) : Int) = (0 : Int)) = false ∧ True → InK IntKind.i64 ((↑(List.length (List.take k S)) : Int) - (1 : Int)), decide ((↑(List.length (List.take k S)) : Int) = (0 : Int)) = false ∧ True → (1 : Nat) = (1 : Nat) ∧ (0 : Int) ≤ (↑(List.length (List.take k S)) : Int) - (1 : Int) ∧ (↑(List.length (List.take k S)) : Int) - (1 : Int) < (↑(List.length (List.take k S)) : Int)]) (by kernel_rfl) (by (first | omega | assumption | exact ⟨rfl, trivial⟩ | simp only [AllP, inK_iff, roomOK_iff, decide_eq_true_eq, Bool.and_eq_true, Bool.or_eq_true, Bool.not_eq_true', decide_eq_false_iff_not, and_true, true_and]; (first | omega | (and_intros <;> intros <;> (try and_intros) <;> first | omega | assumption | exact trivial)))) ?_
      refine good_cond ((decide ((↑(List.length (List.take k S)) : Int) = (0 : Int)) || decide (List.getD (List.take k S) (Int.toNat ((↑(List.length (List.take k S)) : Int) - (1 : Int))) (0 : Int) < (List.getD l j default).Box)) && (decide (nextI (List.map Move.Box (List.take j l)) (List.take k S) = (0 : Int)) || decide ((List.getD l j default).Box < nextI (List.map Move.Box (List.take j l)) (List.take k S)))) (by kernel_rfl) (fun hc3 => ?_) (fun hc3 => ?_)
      · rw [cand_eq] at hc3
        rw [nextStep, if_pos hc3] at hst
        refine good_run 12 (obs := [InK IntKind.i64 ((↑j : Int) + (1 : Int))]) (by kernel_rfl) (by (first | omega | assumption | exact ⟨rfl, trivial⟩ | simp only [AllP, inK_iff, roomOK_iff, decide_eq_true_eq, Bool.and_eq_true, Bool.or_eq_true, Bool.not_eq_true', decide_eq_false_iff_not, and_true, true_and]; (first | omega | (and_intros <;> intros <;> (try and_intros) <;> first | omega | assumption | exact trivial)))) ?_
        refine good_backJ (j + 1) [List.length (List.take k S) = List.length (List.take k S) ∧ ∀ (i : Nat), i < List.length (List.take k S) → (fun i => [SV.int IntKind.i64 (List.getD (List.take k S) i (0 : Int))]) i = (fun i => [SV.int IntKind.i64 (List.getD (List.take k S) i (0 : Int))]) i, (↑j : Int) + (1 : Int) = (↑(j + (1 : Nat)) : Int), (List.getD l j default).Box = nextI (List.map Move.Box (List.take (j + (1 : Nat)) l)) (List.take k S), (↑(List.length l) : Int) = (↑(List.length l) : Int), List.length l = List.length l ∧ ∀ (i : Nat), i < List.length l → (fun i => Move.cells (List.getD l i default)) i = (fun i => Move.cells (List.getD l i default)) i, List.length l = List.length l ∧ ∀ (i : Nat), i < List.length l → (fun i => Move.cells (List.getD l i default)) i = (fun i => Move.cells (List.getD l i default)) i] (by kernel_rfl) (by kernel_rfl) ⟨⟨rfl, fun _ _ => rfl⟩, (by omega), (by omega), rfl, ⟨rfl, fun _ _ => rfl⟩, ⟨rfl, fun _ _ => rfl⟩, trivial⟩ (by omega) (by show _ < _; omega)
      · rw [cand_eq] at hc3
        rw [nextStep, if_neg (by rw [hc3]; decide)] at hst
        refine good_run 7 (obs := [InK IntKind.i64 ((↑j : Int) + (1 : Int))]) (by kernel_rfl) (by (first | omega | assumption | exact ⟨rfl, trivial⟩ | simp only [AllP, inK_iff, roomOK_iff, decide_eq_true_eq, Bool.and_eq_true, Bool.or_eq_true, Bool.not_eq_true', decide_eq_false_iff_not, and_true, true_and]; (first | omega | (and_intros <;> intros <;> (try and_intros) <;> first | omega | assumption | exact trivial)))) ?_
        refine good_backJ (j + 1) [List.length (List.take k S) = List.length (List.take k S) ∧ ∀ (i : Nat), i < List.length (List.take k S) → (fun i => [SV.int IntKind.i64 (List.getD (List.take k S) i (0 : Int))]) i = (fun i => [SV.int IntKind.i64 (List.getD (List.take k S) i (0 : Int))]) i, (↑j : Int) + (1 : Int) = (↑(j + (1 : Nat)) : Int), nextI (List.map Move.Box (List.take j l)) (List.take k S) = nextI (List.map Move.Box (List.take (j + (1 : Nat)) l)) (List.take k S), (↑(List.length l) : Int) = (↑(List.length l) : Int), List.length l = List.length l ∧ ∀ (i : Nat), i < List.length l → (fun i => Move.cells (List.getD l i default)) i = (fun i => Move.cells (List.getD l i default)) i, List.length l = List.length l ∧ ∀ (i : Nat), i < List.length l → (fun i => Move.cells (List.getD l i default)) i = (fun i => Move.cells (List.getD l i default)) i] (by kernel_rfl) (by kernel_rfl) ⟨⟨rfl, fun _ _ => rfl⟩, (by omega), (by omega), rfl, ⟨rfl, fun _ _ => rfl⟩, ⟨rfl, fun _ _ => rfl⟩, trivial⟩ (by omega) (by show _ < _; omega)
    · have hge : j = l.length := by simp only [decide_eq_false_iff_not] at hc2; omega
      subst hge
      rw [List.take_length]
      refine good_run 2 (obs := []) (by kernel_rfl) trivial ?_
      refine good_leaveJ (by kernel_rfl) ?_
      refine good_run 8 (obs := []) (by kernel_rfl) trivial ?_
      refine good_cond (decide (nextI (List.map Move.Box l) (List.take k S) = (0 : Int))) (by kernel_rfl) (fun hc3 => ?_) (fun hc3 => ?_)
      · have hkk : k = S.length := by
          simp only [decide_eq_true_eq] at hc3
          rw [hnk] at hc3
          split at hc3
          · rename_i h; have := hpos k h; omega
          · omega
        subst hkk
        rw [List.take_length]
        refine good_run 10 (obs := []) (by kernel_rfl) trivial ?_
        refine good_leaveJ (by kernel_rfl) ?_
        refine good_run 1 (obs := []) (by kernel_rfl) trivial ?_
        refine good_fin [List.length S = List.length (S, (0 : Int)).fst ∧ ∀ (i : Nat), i < List.length S → (fun i => [SV.int IntKind.i64 (List.getD S i (0 : Int))]) i = (fun i => [SV.int IntKind.i64 (List.getD (S, (0 : Int)).fst i (0 : Int))]) i, (0 : Int) = (0 : Int)] (by kernel_rfl) ⟨⟨rfl, fun _ _ => rfl⟩, rfl, trivial⟩
      · have hkk : k < S.length := by
          simp only [decide_eq_false_iff_not] at hc3
          rw [hnk] at hc3
          refine Nat.lt_of_not_le fun h => hc3 ?_
          rw [if_neg (by omega)]
        rw [if_pos hkk] at hnk
        refine good_run 10 (obs := [(3 : Nat) = (3 : Nat) ∧ (1 : Nat) = (1 : Nat) ∧ (1 : Nat) = (1 : Nat) ∧ roomOK (List.length (List.take k S) + (1 : Nat)) (8 : Nat)]) (by kernel_rfl) (by (first | omega | assumption | exact ⟨rfl, trivial⟩ | simp only [AllP, inK_iff, roomOK_iff, decide_eq_true_eq, Bool.and_eq_true, Bool.or_eq_true, Bool.not_eq_true', decide_eq_false_iff_not, and_true, true_and]; (first | omega | (and_intros <;> intros <;> (try and_intros) <;> first | omega | assumption | exact trivial)))) ?_
        refine good_backJ (k + 1) [List.length (List.take k S) + (1 : Nat) = List.length (List.take (k + (1 : Nat)) S) ∧ ∀ (i : Nat), i < List.length (List.take k S) + (1 : Nat) → joinGet (List.length (List.take k S)) (fun i => [SV.int IntKind.i64 (List.getD (List.take k S) i (0 : Int))]) (cutRows (1 : Nat) [SV.int IntKind.i64 (nextI (List.map Move.Box l) (List.take k S))]) i = (fun i => [SV.int IntKind.i64 (List.getD (List.take (k + (1 : Nat)) S) i (0 : Int))]) i, List.length l = List.length l ∧ ∀ (i : Nat), i < List.length l → (fun i => Move.cells (List.getD l i default)) i = (fun i => Move.cells (List.getD l i default)) i] (by kernel_rfl) (by kernel_rfl) ⟨?_, ⟨rfl, fun _ _ => rfl⟩, trivial⟩ (by omega) (by show _ < _; omega)
        rw [hnk, take_snoc S 0 k hkk]
        exact row_snoc' (fun n => [SV.int .i64 n]) 0 (S.take k) (S.getD k 0) 1 rfl
/-! The boxes by the program. -/
theorem s47x (us : Nat → Value) (b : Nat) : SpecX Try.prog 47 us [.sv (.val (.map (some b)))] [] (fun o => ∃ c, o = ⟨[.sv (.fn 57 [.val (.pointer (some ⟨c, 0, none⟩))])], [.cells 68 true [.val (.map (some b))]], [(0, .pointer (some ⟨c, 0, none⟩))]⟩) := by
  refine specX_of_good mixed Try.func47 F47_ok (by kernel_rfl) (by kernel_rfl) (by kernel_rfl) ?_
  refine good_run 8 (obs := []) (by kernel_rfl) trivial ?_
  refine good_tagCells 0 (t := (68 : Nat)) (mu := true) (cs := [SV.val (Value.map (some b))]) (by kernel_rfl) (fun c => ?_)
  refine good_val 1 0 (Value.pointer (some { block := c, off := (0 : Nat) })) (by kernel_rfl) ?_
  refine good_run 5 (obs := []) (by kernel_rfl) trivial ?_
  refine good_finX (⟨[.sv (.fn 57 [.val (.pointer (some ⟨c, 0, none⟩))])], [.cells 68 true [.val (.map (some b))]], [(0, .pointer (some ⟨c, 0, none⟩))]⟩) (⟨c, rfl⟩) [SVle (SV.val (Value.map (some b))) (SV.val (Value.map (some b))), SVle (SV.fn (57 : Nat) [SV.val (Value.pointer (some { block := c, off := (0 : Nat) }))]) (SV.fn (57 : FuncId) [SV.val (Value.pointer (some { block := c, off := (0 : Nat) }))]), Value.pointer (some { block := c, off := (0 : Nat) }) = ((0 : Nat), Value.pointer (some { block := c, off := (0 : Nat) })).snd] (by kernel_rfl) ⟨SVle.refl _, SVle.refl _, rfl, trivial⟩
def twoK (b c : Nat) (i : Nat) : Value := if i = 0 then .map (some b) else .pointer (some ⟨c, 0, none⟩)
theorem s46x (b c : Nat) (z : Value) (keys : List Int) (get : Int → SV) (hin : ∀ k ∈ keys, InK .i64 k) (hlen : keys.length ≤ 1000000000) :
    SpecX Try.prog 46 (twoK b c) [.sv (.fn 57 [.val (.pointer (some ⟨c, 0, none⟩))])] [.map z keys get, .cells 68 true [.val (.map (some b))]]
      (fun o => o = ⟨[.sv (ints (isort keys))], [.map z keys get, .cells 68 true [.val (.map (some b))]], [(0, .map (some b)), (1, .pointer (some ⟨c, 0, none⟩))]⟩) :=
  sorted_spec { laysK with } laysS lays189 rfl (hasBody_of_slim Try.func46 F46_ok) (enters_of Try.func43 (by kernel_rfl) rfl) (enters_of Try.func57 (by kernel_rfl) rfl) (twoK b c) z 68 true keys get hin hlen
theorem s26 (l : List Move) : Spec Try.prog 26 [moves l] (.tup [ints (boxesF l).1, .int .i64 (boxesF l).2]) := by
  refine spec_of_good mixed Try.func26 F26_ok (by kernel_rfl) ?_
  refine good_run 9 (obs := []) (by kernel_rfl) trivial ?_
  refine good_callx [] [] (s34x l) (by kernel_rfl) (by kernel_rfl) [] [List.length l = List.length l ∧ ∀ (i : Nat), i < List.length l → (fun i => Move.cells (List.getD l i default)) i = (fun i => Move.cells (List.getD l i default)) i] (by kernel_rfl) trivial (by kernel_rfl) ⟨⟨rfl, fun _ _ => rfl⟩, trivial⟩ ?_
  rintro _ ⟨b, c, l', h, rfl⟩
  refine ⟨trivial, ?_⟩
  refine good_run 14 (obs := []) (by kernel_rfl) trivial ?_
  refine good_cond (!decide (checkL l = (0 : Int))) (by kernel_rfl) (fun hc1 => ?_) (fun hc1 => ?_)
  · have e : boxesF l = ([], 1) := if_pos (by simpa using hc1)
    rw [e]
    refine good_run 8 (obs := []) (by kernel_rfl) trivial ?_
    refine good_fin [(0 : Nat) = (0 : Nat), (1 : Int) = (1 : Int)] (by kernel_rfl) ⟨rfl, rfl, trivial⟩
  · have hc : checkL l = 0 := by simpa using hc1
    have hl' := h hc
    subst hl'
    have hll := ((checkL_iff l').1 hc).1
    have e : boxesF l' = (isort (keysL l'), 0) := if_neg (by simp [hc])
    rw [e]
    have hin : ∀ k ∈ keysL l', InK .i64 k := fun k hk => (inK_iff k).2 (by have := box_pos hc k ((keysL_mem l' k).1 hk); omega)
    refine good_run 4 (obs := []) (by kernel_rfl) trivial ?_
    refine good_ref 13 1 (Value.pointer (some { block := c, off := (0 : Nat) })) (by kernel_rfl) ?_
    refine good_run 3 (obs := []) (by kernel_rfl) trivial ?_
    refine good_callx [] [] (s47x (fun _ => undef) b) (by kernel_rfl) (by kernel_rfl) [] [SVle (SV.val (Value.map (some b))) (SV.val (Value.map (some b)))] (by kernel_rfl) trivial (by kernel_rfl) ⟨SVle.refl _, trivial⟩ ?_
    rintro _ ⟨d, rfl⟩
    refine ⟨trivial, ?_⟩
    skip
    refine good_callx [0, 2] [] (s46x b d zP (keysL l') (fun k => (lastP l' k).sv) hin (by have := keysL_len l'; omega)) (by kernel_rfl) (by kernel_rfl) [zP = zP, keysL l' = keysL l' ∧ ∀ (k : Int), (fun k => Place.sv (lastP l' k)) k = (fun k => Place.sv (lastP l' k)) k, Value.map (some b) = twoK b d (0 : Nat), SVle (SV.val (Value.map (some b))) (SV.val (Value.map (some b))), Value.pointer (some { block := d, off := (0 : Nat) }) = twoK b d ((0 : Nat) + (1 : Nat))] [SVle (SV.fn (57 : Nat) [SV.val (Value.pointer (some { block := d, off := (0 : Nat) }))]) (SV.fn (57 : FuncId) [SV.val (Value.pointer (some { block := d, off := (0 : Nat) }))])] (by kernel_rfl) ⟨rfl, ⟨rfl, fun _ => rfl⟩, ?_, SVle.refl _, ?_, trivial⟩ (by kernel_rfl) ⟨SVle.refl _, trivial⟩ ?_
    · rfl
    · rfl
    rintro _ rfl
    refine ⟨trivial, ?_⟩
    refine good_run 5 (obs := []) (by kernel_rfl) trivial ?_
    refine good_fin [List.length (isort (keysL l')) = List.length (isort (keysL l'), (0 : Int)).fst ∧ ∀ (i : Nat), i < List.length (isort (keysL l')) → (fun i => [SV.int IntKind.i64 (List.getD (isort (keysL l')) i (0 : Int))]) i = (fun i => [SV.int IntKind.i64 (List.getD (isort (keysL l'), (0 : Int)).fst i (0 : Int))]) i, (0 : Int) = (0 : Int)] (by kernel_rfl) ⟨⟨rfl, fun _ _ => rfl⟩, rfl, trivial⟩
end Go.Sx.T
