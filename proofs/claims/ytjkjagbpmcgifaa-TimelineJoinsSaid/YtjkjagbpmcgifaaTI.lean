/- Contracts of functions of the program, each proved by running its code symbolically (TI). -/
import Derived.Test.YtjkjagbpmcgifaaTE
namespace Go.Sx.T
open Go Go.Proofs Go.Sx
set_option maxRecDepth 100000
set_option maxHeartbeats 4000000
set_option linter.unusedVariables false
set_option linter.unusedSimpArgs false
def putR (l : List Piece) (x : Piece) : List Piece := if x.Until ≤ x.From then l else putP l x
theorem putR_len (l : List Piece) (x : Piece) : (putR l x).length ≤ l.length + 1 := by
  unfold putR; split
  · omega
  · exact putP_len l x
theorem s44 (l : List Piece) (a b v : Int) (hl : l.length ≤ 2000000) : SpecTake Try.prog 44 [] 47 3 l.length (fun i => (l.getD i default).cells) [.agg [.int .i64 a, .int .i64 b, .int .i64 v]] (putR l ⟨a, b, v⟩).length (fun i => ((putR l ⟨a, b, v⟩).getD i default).cells) := by
  refine specTake_of_good mixed Try.func44 F44_ok (by kernel_rfl) ?_
  have el : ((l.length : Int) - 1).toNat = l.length - 1 := by omega
  refine good_run 18 (obs := []) (by kernel_rfl) trivial ?_
  refine good_cond (decide (b ≤ a)) (by kernel_rfl) (fun hc1 => ?_) (fun hc1 => ?_)
  · simp only [decide_eq_true_eq] at hc1
    have e : putR l ⟨a, b, v⟩ = l := by rw [putR, if_pos hc1]
    rw [e]
    refine good_run 8 (obs := []) (by kernel_rfl) trivial ?_
    refine good_finTake [List.length l = List.length l ∧ ∀ (j : Nat), j < List.length l → (fun i => Piece.cells (List.getD l i default)) j = (fun i => Piece.cells (List.getD l i default)) j] (by kernel_rfl) ⟨⟨rfl, fun _ _ => rfl⟩, trivial⟩
  · simp only [decide_eq_false_iff_not] at hc1
    have e : putR l ⟨a, b, v⟩ = putP l ⟨a, b, v⟩ := by rw [putR, if_neg hc1]
    rw [e]
    refine good_run 38 (obs := [InK IntKind.i64 ((↑(List.length l) : Int) - (1 : Int)), decide ((0 : Int) ≤ (↑(List.length l) : Int) - (1 : Int)) = true ∧ True → (3 : Nat) = (3 : Nat) ∧ (0 : Int) ≤ (↑(List.length l) : Int) - (1 : Int) ∧ (↑(List.length l) : Int) - (1 : Int) < (↑(List.length l) : Int), (decide ((0 : Int) ≤ (↑(List.length l) : Int) - (1 : Int)) && decide ((List.getD l (Int.toNat ((↑(List.length l) : Int) - (1 : Int))) default).Until = a)) = true ∧ True → (3 : Nat) = (3 : Nat) ∧ (0 : Int) ≤ (↑(List.length l) : Int) - (1 : Int) ∧ (↑(List.length l) : Int) - (1 : Int) < (↑(List.length l) : Int)]) (by kernel_rfl) (by (refine ⟨by rw [inK_iff]; omega, fun h => ?_, fun h => ?_, trivial⟩ <;> simp only [Bool.and_eq_true, decide_eq_true_eq, and_true] at h <;> omega)) ?_
    refine good_cond (decide ((0 : Int) ≤ (↑(List.length l) : Int) - (1 : Int)) && decide ((List.getD l (Int.toNat ((↑(List.length l) : Int) - (1 : Int))) default).Until = a) && decide ((List.getD l (Int.toNat ((↑(List.length l) : Int) - (1 : Int))) default).Value = v)) (by kernel_rfl) (fun hc2 => ?_) (fun hc2 => ?_)
    · have hj : joins l a v = true := by
        rw [el] at hc2
        simp only [Bool.and_eq_true, decide_eq_true_eq] at hc2
        unfold joins lastP
        simp only [Bool.and_eq_true, decide_eq_true_eq]
        exact ⟨⟨by omega, hc2.1.2⟩, hc2.2⟩
      have hpos : 0 < l.length := by simp only [joins, Bool.and_eq_true, decide_eq_true_eq] at hj; omega
      refine good_run 21 (obs := [(3 : Nat) = (3 : Nat) ∧ (0 : Int) ≤ (↑(List.length l) : Int) - (1 : Int) ∧ (↑(List.length l) : Int) - (1 : Int) < (↑(List.length l) : Int), (1 : Nat) = (1 : Nat) ∧ (1 : Nat) + (1 : Nat) ≤ (3 : Nat)]) (by kernel_rfl) (by (first | omega | assumption | exact ⟨rfl, trivial⟩ | simp only [AllP, inK_iff, roomOK_iff, decide_eq_true_eq, Bool.and_eq_true, Bool.or_eq_true, Bool.not_eq_true', decide_eq_false_iff_not, and_true, true_and]; (first | omega | (and_intros <;> intros <;> (try and_intros) <;> first | omega | assumption | exact trivial)))) ?_
      refine good_finTake [List.length l = List.length (putP l { From := a, Until := b, Value := v }) ∧ ∀ (j : Nat), j < List.length (putP l { From := a, Until := b, Value := v }) → (fun j => if j = Int.toNat ((↑(List.length l) : Int) - (1 : Int)) then lay ((fun i => Piece.cells (List.getD l i default)) (Int.toNat ((↑(List.length l) : Int) - (1 : Int)))) (1 : Nat) [SV.int IntKind.i64 b] else (fun i => Piece.cells (List.getD l i default)) j) j = (fun i => Piece.cells (List.getD (putP l { From := a, Until := b, Value := v }) i default)) j] (by kernel_rfl) ⟨?_, trivial⟩
      rw [putP, if_pos hj]
      refine ⟨by rw [List.length_set], fun i hi => ?_⟩
      show (if i = _ then _ else _) = Piece.cells (List.getD (List.set _ _ _) _ _)
      rw [getD_set _ _ _ _ (by omega), el]
      split
      · rename_i h; subst h; rfl
      · rfl
    · have hj : ¬ joins l a v = true := by
        rw [el] at hc2
        intro hh
        rw [Bool.eq_false_iff] at hc2
        refine hc2 ?_
        unfold joins lastP at hh
        simp only [Bool.and_eq_true, decide_eq_true_eq] at hh ⊢
        exact ⟨⟨by omega, hh.1.2⟩, hh.2⟩
      refine good_run 11 (obs := [(0 : Nat) + (3 : Nat) ≤ (3 : Nat), (47 : Nat) = (47 : Nat) ∧ (3 : Nat) = (3 : Nat) ∧ (3 : Nat) = (3 : Nat) ∧ roomOK (List.length l + (1 : Nat)) (24 : Nat)]) (by kernel_rfl) (by (first | omega | assumption | exact ⟨rfl, trivial⟩ | simp only [AllP, inK_iff, roomOK_iff, decide_eq_true_eq, Bool.and_eq_true, Bool.or_eq_true, Bool.not_eq_true', decide_eq_false_iff_not, and_true, true_and]; (first | omega | (and_intros <;> intros <;> (try and_intros) <;> first | omega | assumption | exact trivial)))) ?_
      refine good_finTake [List.length l + (1 : Nat) = List.length (putP l { From := a, Until := b, Value := v }) ∧ ∀ (j : Nat), j < List.length (putP l { From := a, Until := b, Value := v }) → joinGet (List.length l) (fun i => Piece.cells (List.getD l i default)) (cutRows (3 : Nat) [SV.int IntKind.i64 a, SV.int IntKind.i64 b, SV.int IntKind.i64 v]) j = (fun i => Piece.cells (List.getD (putP l { From := a, Until := b, Value := v }) i default)) j] (by kernel_rfl) ⟨?_, trivial⟩
      rw [putP, if_neg hj]
      refine ⟨by rw [List.length_append]; rfl, fun i hi => ?_⟩
      unfold joinGet
      split
      · rename_i h; simp only; rw [getD_append_left _ _ _ h]
      · rename_i h
        rw [List.length_append, List.length_singleton] at hi
        have : i = l.length := by omega
        subst this
        have hl' : (l ++ [(⟨a, b, v⟩ : Piece)]).getD l.length default = ⟨a, b, v⟩ := by
          rw [List.getD_eq_getElem?_getD, List.getElem?_append_right (Nat.le_refl _), Nat.sub_self]; rfl
        rw [Nat.sub_self]
        show _ = Piece.cells (List.getD _ _ _)
        rw [hl']
        rfl
def cutL (l : List Piece) (lo hi : Int) : List Piece := l.foldl (fun acc p => putR acc ⟨max p.From lo, min p.Until hi, p.Value⟩) []
def joinP (a b : List Piece) : List Piece := b.foldl putR a
theorem cutL_snoc (l : List Piece) (k : Nat) (lo hi : Int) (hk : k < l.length) : cutL (l.take (k + 1)) lo hi = putR (cutL (l.take k) lo hi) ⟨max (l.getD k default).From lo, min (l.getD k default).Until hi, (l.getD k default).Value⟩ := by
  rw [take_snoc l default k hk]; simp [cutL]
theorem cutL_len (l : List Piece) (lo hi : Int) : ∀ k, k ≤ l.length → (cutL (l.take k) lo hi).length ≤ k
  | 0, _ => by simp [cutL]
  | k + 1, hk => by
    rw [cutL_snoc l k lo hi (by omega)]
    have h1 := cutL_len l lo hi k (by omega)
    have h2 := putR_len (cutL (l.take k) lo hi) ⟨max (l.getD k default).From lo, min (l.getD k default).Until hi, (l.getD k default).Value⟩
    omega
theorem joinP_snoc (a b : List Piece) (k : Nat) (hk : k < b.length) : joinP a (b.take (k + 1)) = putR (joinP a (b.take k)) (b.getD k default) := by
  rw [take_snoc b default k hk]; simp [joinP]
theorem joinP_len (a b : List Piece) : ∀ k, k ≤ b.length → (joinP a (b.take k)).length ≤ a.length + k
  | 0, _ => by simp [joinP]
  | k + 1, hk => by
    rw [joinP_snoc a b k (by omega)]
    have h1 := joinP_len a b k (by omega)
    have h2 := putR_len (joinP a (b.take k)) (b.getD k default)
    omega
theorem s48 (l : List Piece) (lo hi : Int) (hl : l.length ≤ 100000) : SpecOwn Try.prog 48 [pieces l, .int .i64 lo, .int .i64 hi] 47 3 (cutL l lo hi).length fun i => ((cutL l lo hi).getD i default).cells := by
  refine specOwn_of_good mixed Try.func48 F48_ok (by kernel_rfl) ?_
  refine good_run 18 (obs := []) (by kernel_rfl) trivial ?_
  refine good_loopJ (fun k : Nat => ⟨[(8, .sv (.int .i64 (k))), (7, .own 0), (0, LV.sv (SV.lst (3 : Nat) (List.length l) fun i => Piece.cells (List.getD l i default))), (1, LV.sv (SV.int IntKind.i64 lo)), (2, LV.sv (SV.int IntKind.i64 hi))], [rowP (cutL (l.take k) lo hi)]⟩) (fun k => k ≤ l.length) (fun k => l.length - k) (0) [(0 : Nat) = (0 : Nat) ∧ ∀ (i : Nat), i < (0 : Nat) → cutRows (3 : Nat) [] i = (fun i => Piece.cells (List.getD (cutL (List.take (0 : Nat) l) lo hi) i default)) i, (0 : Int) = (0 : Int), List.length l = List.length l ∧ ∀ (i : Nat), i < List.length l → (fun i => Piece.cells (List.getD l i default)) i = (fun i => Piece.cells (List.getD l i default)) i, lo = lo, hi = hi] (by kernel_rfl) (by kernel_rfl) ⟨?_, rfl, ⟨rfl, fun _ _ => rfl⟩, rfl, rfl, trivial⟩ (by omega) ?_
  · exact ⟨rfl, fun i hi => by omega⟩
  intro k hk
  have hcl := cutL_len l lo hi k hk
  refine good_run 9 (obs := []) (by kernel_rfl) trivial ?_
  refine good_cond (decide ((↑k : Int) < (↑(List.length l) : Int))) (by kernel_rfl) (fun hc1 => ?_) (fun hc1 => ?_)
  · have hlt : k < l.length := by simp only [decide_eq_true_eq] at hc1; omega
    have hs := cutL_snoc l k lo hi hlt
    refine good_run 33 (obs := [(3 : Nat) = (3 : Nat) ∧ (0 : Int) ≤ (↑k : Int) ∧ (↑k : Int) < (↑(List.length l) : Int), (0 : Nat) + (3 : Nat) ≤ (3 : Nat), (3 : Nat) = (3 : Nat) ∧ (0 : Nat) + (3 : Nat) ≤ (3 : Nat), (2 : Nat) = (2 : Nat) ∧ (0 : Nat) + (2 : Nat) ≤ (3 : Nat), (0 : Nat) + (3 : Nat) ≤ (3 : Nat)]) (by kernel_rfl) (by (first | omega | assumption | exact ⟨rfl, trivial⟩ | simp only [AllP, inK_iff, roomOK_iff, decide_eq_true_eq, Bool.and_eq_true, Bool.or_eq_true, Bool.not_eq_true', decide_eq_false_iff_not, and_true, true_and]; (first | omega | (and_intros <;> intros <;> (try and_intros) <;> first | omega | assumption | exact trivial)))) ?_
    refine good_take (by kernel_rfl) (SVles.refl _) (SVles.refl _) (s44 (cutL (List.take k l) lo hi) (max (List.getD l k default).From lo) (min (List.getD l k default).Until hi) ((List.getD l k default).Value) (by (first | omega | assumption | exact ⟨rfl, trivial⟩ | simp only [AllP, inK_iff, roomOK_iff, decide_eq_true_eq, Bool.and_eq_true, Bool.or_eq_true, Bool.not_eq_true', decide_eq_false_iff_not, and_true, true_and]; (first | omega | (and_intros <;> intros <;> (try and_intros) <;> first | omega | assumption | exact trivial))))) ?_
    refine good_run 10 (obs := [InK IntKind.i64 ((↑k : Int) + (1 : Int))]) (by kernel_rfl) (by (first | omega | assumption | exact ⟨rfl, trivial⟩ | simp only [AllP, inK_iff, roomOK_iff, decide_eq_true_eq, Bool.and_eq_true, Bool.or_eq_true, Bool.not_eq_true', decide_eq_false_iff_not, and_true, true_and]; (first | omega | (and_intros <;> intros <;> (try and_intros) <;> first | omega | assumption | exact trivial)))) ?_
    refine good_backJ (k + 1) [List.length (putR (cutL (List.take k l) lo hi) { From := max (List.getD l k default).From lo, Until := min (List.getD l k default).Until hi, Value := (List.getD l k default).Value }) = List.length (cutL (List.take (k + (1 : Nat)) l) lo hi) ∧ ∀ (i : Nat), i < List.length (putR (cutL (List.take k l) lo hi) { From := max (List.getD l k default).From lo, Until := min (List.getD l k default).Until hi, Value := (List.getD l k default).Value }) → (fun i => Piece.cells (List.getD (putR (cutL (List.take k l) lo hi) { From := max (List.getD l k default).From lo, Until := min (List.getD l k default).Until hi, Value := (List.getD l k default).Value }) i default)) i = (fun i => Piece.cells (List.getD (cutL (List.take (k + (1 : Nat)) l) lo hi) i default)) i, (↑k : Int) + (1 : Int) = (↑(k + (1 : Nat)) : Int), List.length l = List.length l ∧ ∀ (i : Nat), i < List.length l → (fun i => Piece.cells (List.getD l i default)) i = (fun i => Piece.cells (List.getD l i default)) i, lo = lo, hi = hi] (by kernel_rfl) (by kernel_rfl) ⟨?_, (by omega), ⟨rfl, fun _ _ => rfl⟩, rfl, rfl, trivial⟩ (by omega) (by show _ < _; omega)
    rw [hs]; exact ⟨rfl, fun _ _ => rfl⟩
  · have hge : k = l.length := by simp only [decide_eq_false_iff_not] at hc1; omega
    subst hge
    rw [List.take_length]
    refine good_run 2 (obs := []) (by kernel_rfl) trivial ?_
    refine good_leaveJ (by kernel_rfl) ?_
    refine good_run 8 (obs := []) (by kernel_rfl) trivial ?_
    refine good_finOwn [List.length (cutL l lo hi) = List.length (cutL l lo hi) ∧ ∀ (j : Nat), j < List.length (cutL l lo hi) → (fun i => Piece.cells (List.getD (cutL l lo hi) i default)) j = (fun i => Piece.cells (List.getD (cutL l lo hi) i default)) j] (by kernel_rfl) ⟨⟨rfl, fun _ _ => rfl⟩, trivial⟩
theorem s47 (a b : List Piece) (ha : a.length ≤ 100000) (hb : b.length ≤ 100000) : SpecTake Try.prog 47 [] 47 3 a.length (fun i => (a.getD i default).cells) [pieces b] (joinP a b).length fun i => ((joinP a b).getD i default).cells := by
  refine specTake_of_good mixed Try.func47 F47_ok (by kernel_rfl) ?_
  refine good_run 12 (obs := []) (by kernel_rfl) trivial ?_
  refine good_loopJ (fun k : Nat => ⟨[(5, .sv (.int .i64 (k))), (0, .own 0), (1, LV.sv (SV.lst (3 : Nat) (List.length b) fun i => Piece.cells (List.getD b i default)))], [rowP (joinP a (b.take k))]⟩) (fun k => k ≤ b.length) (fun k => b.length - k) (0) [List.length a = List.length (joinP a []) ∧ ∀ (i : Nat), i < List.length a → (fun i => Piece.cells (List.getD a i default)) i = (fun i => Piece.cells (List.getD (joinP a (List.take (0 : Nat) b)) i default)) i, (0 : Int) = (0 : Int), List.length b = List.length b ∧ ∀ (i : Nat), i < List.length b → (fun i => Piece.cells (List.getD b i default)) i = (fun i => Piece.cells (List.getD b i default)) i] (by kernel_rfl) (by kernel_rfl) ⟨?_, rfl, ⟨rfl, fun _ _ => rfl⟩, trivial⟩ (by omega) ?_
  · exact ⟨rfl, fun _ _ => rfl⟩
  intro k hk
  have hcl := joinP_len a b k hk
  refine good_run 9 (obs := []) (by kernel_rfl) trivial ?_
  refine good_cond (decide ((↑k : Int) < (↑(List.length b) : Int))) (by kernel_rfl) (fun hc1 => ?_) (fun hc1 => ?_)
  · have hlt : k < b.length := by simp only [decide_eq_true_eq] at hc1; omega
    have hs := joinP_snoc a b k hlt
    refine good_run 9 (obs := [(3 : Nat) = (3 : Nat) ∧ (0 : Int) ≤ (↑k : Int) ∧ (↑k : Int) < (↑(List.length b) : Int), (0 : Nat) + (3 : Nat) ≤ (3 : Nat)]) (by kernel_rfl) (by (first | omega | assumption | exact ⟨rfl, trivial⟩ | simp only [AllP, inK_iff, roomOK_iff, decide_eq_true_eq, Bool.and_eq_true, Bool.or_eq_true, Bool.not_eq_true', decide_eq_false_iff_not, and_true, true_and]; (first | omega | (and_intros <;> intros <;> (try and_intros) <;> first | omega | assumption | exact trivial)))) ?_
    refine good_take (by kernel_rfl) (SVles.refl _) (SVles.refl _) (s44 (joinP a (List.take k b)) ((List.getD b k default).From) ((List.getD b k default).Until) ((List.getD b k default).Value) (by (first | omega | assumption | exact ⟨rfl, trivial⟩ | simp only [AllP, inK_iff, roomOK_iff, decide_eq_true_eq, Bool.and_eq_true, Bool.or_eq_true, Bool.not_eq_true', decide_eq_false_iff_not, and_true, true_and]; (first | omega | (and_intros <;> intros <;> (try and_intros) <;> first | omega | assumption | exact trivial))))) ?_
    refine good_run 10 (obs := [InK IntKind.i64 ((↑k : Int) + (1 : Int))]) (by kernel_rfl) (by (first | omega | assumption | exact ⟨rfl, trivial⟩ | simp only [AllP, inK_iff, roomOK_iff, decide_eq_true_eq, Bool.and_eq_true, Bool.or_eq_true, Bool.not_eq_true', decide_eq_false_iff_not, and_true, true_and]; (first | omega | (and_intros <;> intros <;> (try and_intros) <;> first | omega | assumption | exact trivial)))) ?_
    refine good_backJ (k + 1) [List.length (putR (joinP a (List.take k b)) { From := (List.getD b k default).From, Until := (List.getD b k default).Until, Value := (List.getD b k default).Value }) = List.length (joinP a (List.take (k + (1 : Nat)) b)) ∧ ∀ (i : Nat), i < List.length (putR (joinP a (List.take k b)) { From := (List.getD b k default).From, Until := (List.getD b k default).Until, Value := (List.getD b k default).Value }) → (fun i => Piece.cells (List.getD (putR (joinP a (List.take k b)) { From := (List.getD b k default).From, Until := (List.getD b k default).Until, Value := (List.getD b k default).Value }) i default)) i = (fun i => Piece.cells (List.getD (joinP a (List.take (k + (1 : Nat)) b)) i default)) i, (↑k : Int) + (1 : Int) = (↑(k + (1 : Nat)) : Int), List.length b = List.length b ∧ ∀ (i : Nat), i < List.length b → (fun i => Piece.cells (List.getD b i default)) i = (fun i => Piece.cells (List.getD b i default)) i] (by kernel_rfl) (by kernel_rfl) ⟨?_, (by omega), ⟨rfl, fun _ _ => rfl⟩, trivial⟩ (by omega) (by show _ < _; omega)
    rw [hs]; exact ⟨rfl, fun _ _ => rfl⟩
  · have hge : k = b.length := by simp only [decide_eq_false_iff_not] at hc1; omega
    subst hge
    rw [List.take_length]
    refine good_run 2 (obs := []) (by kernel_rfl) trivial ?_
    refine good_leaveJ (by kernel_rfl) ?_
    refine good_run 8 (obs := []) (by kernel_rfl) trivial ?_
    refine good_finTake [List.length (joinP a b) = List.length (joinP a b) ∧ ∀ (j : Nat), j < List.length (joinP a b) → (fun i => Piece.cells (List.getD (joinP a b) i default)) j = (fun i => Piece.cells (List.getD (joinP a b) i default)) j] (by kernel_rfl) ⟨⟨rfl, fun _ _ => rfl⟩, trivial⟩
def changeL (l : List Piece) (a b : Int) (w : List Piece) : List Piece := joinP (joinP (cutL l 0 a) w) (cutL l b 1048576)
def changeR (l : List Piece) (a b : Int) (w : List Piece) : List Piece × Int :=
  if check l ≠ 0 then ([], check l) else if okSpan a b = false then ([], 2) else if 1024 < (changeL l a b w).length then ([], 8) else (changeL l a b w, 0)
theorem s31 (l : List Piece) (a b : Int) (w : List Piece) (hw : w.length ≤ 10) : Spec Try.prog 31 [pieces l, .agg [.int .i64 a, .int .i64 b], pieces w] (.tup [pieces (changeR l a b w).1, .int .i64 (changeR l a b w).2]) := by
  refine spec_of_good mixed Try.func31 F31_ok (by kernel_rfl) ?_
  refine good_run 10 (obs := []) (by kernel_rfl) trivial ?_
  refine good_call (c := True) (by kernel_rfl) (fun _ => SVles.refl _) (fun _ => s23 (l)) (by kernel_rfl) ?_
  refine good_run 10 (obs := []) (by kernel_rfl) trivial ?_
  refine good_cond (!decide (check l = (0 : Int))) (by kernel_rfl) (fun hc1 => ?_) (fun hc1 => ?_)
  · simp only [Bool.not_eq_true', decide_eq_false_iff_not] at hc1
    have : changeR l a b w = ([], check l) := by rw [changeR, if_pos hc1]
    rw [this]
    refine good_run 9 (obs := []) (by kernel_rfl) trivial ?_
    refine good_fin [(0 : Nat) = (0 : Nat), check l = check l] (by kernel_rfl) ⟨rfl, rfl, trivial⟩
  · simp only [Bool.not_eq_false', decide_eq_true_eq] at hc1
    have hl := (check_zero.1 hc1).1
    refine good_run 5 (obs := [(0 : Nat) + (2 : Nat) ≤ (2 : Nat)]) (by kernel_rfl) (by (first | omega | assumption | exact ⟨rfl, trivial⟩ | simp only [AllP, inK_iff, roomOK_iff, decide_eq_true_eq, Bool.and_eq_true, Bool.or_eq_true, Bool.not_eq_true', decide_eq_false_iff_not, and_true, true_and]; (first | omega | (and_intros <;> intros <;> (try and_intros) <;> first | omega | assumption | exact trivial)))) ?_
    refine good_call (c := True) (by kernel_rfl) (fun _ => SVles.refl _) (fun _ => s38 (a) (b)) (by kernel_rfl) ?_
    refine good_run 3 (obs := []) (by kernel_rfl) trivial ?_
    refine good_cond (!okSpan a b) (by kernel_rfl) (fun hc2 => ?_) (fun hc2 => ?_)
    · simp only [Bool.not_eq_true'] at hc2
      have : changeR l a b w = ([], 2) := by rw [changeR, if_neg (fun h => h hc1), if_pos hc2]
      rw [this]
      refine good_run 8 (obs := []) (by kernel_rfl) trivial ?_
      refine good_fin [(0 : Nat) = (0 : Nat), (2 : Int) = (2 : Int)] (by kernel_rfl) ⟨rfl, rfl, trivial⟩
    · simp only [Bool.not_eq_false'] at hc2
      have hr : changeR l a b w = if 1024 < (changeL l a b w).length then ([], 8) else (changeL l a b w, 0) := by rw [changeR, if_neg (fun h => h hc1), if_neg (by rw [hc2]; decide)]
      have c1 := cutL_len l 0 a l.length (Nat.le_refl _)
      have c2 := cutL_len l b 1048576 l.length (Nat.le_refl _)
      rw [List.take_length] at c1 c2
      have c3 := joinP_len (cutL l 0 a) w w.length (Nat.le_refl _)
      rw [List.take_length] at c3
      refine good_run 7 (obs := []) (by kernel_rfl) trivial ?_
      refine good_pick [1, 7] (by kernel_rfl) ⟨?_, ?_, trivial⟩
      refine good_run 2 (obs := []) (by kernel_rfl) trivial ?_
      refine good_pick [2, 7] (by kernel_rfl) ⟨?_, ?_, trivial⟩
      refine good_run 2 (obs := []) (by kernel_rfl) trivial ?_
      refine good_pick [3, 7] (by kernel_rfl) ⟨?_, ?_, trivial⟩
      refine good_own (c := True) (by kernel_rfl) (by kernel_rfl) (SVles.refl _) (s48 (l) ((0 : Int)) (a) (by (first | omega | assumption | exact ⟨rfl, trivial⟩ | simp only [AllP, inK_iff, roomOK_iff, decide_eq_true_eq, Bool.and_eq_true, Bool.or_eq_true, Bool.not_eq_true', decide_eq_false_iff_not, and_true, true_and]; (first | omega | (and_intros <;> intros <;> (try and_intros) <;> first | omega | assumption | exact trivial))))) ?_
      refine good_run 1 (obs := []) (by kernel_rfl) trivial ?_
      refine good_pick [5, 7] (by kernel_rfl) ⟨?_, ?_, trivial⟩
      refine good_take (by kernel_rfl) (SVles.refl _) (SVles.refl _) (s47 (cutL l (0 : Int) a) (w) (by (first | omega | assumption | exact ⟨rfl, trivial⟩ | simp only [AllP, inK_iff, roomOK_iff, decide_eq_true_eq, Bool.and_eq_true, Bool.or_eq_true, Bool.not_eq_true', decide_eq_false_iff_not, and_true, true_and]; (first | omega | (and_intros <;> intros <;> (try and_intros) <;> first | omega | assumption | exact trivial)))) (by (first | omega | assumption | exact ⟨rfl, trivial⟩ | simp only [AllP, inK_iff, roomOK_iff, decide_eq_true_eq, Bool.and_eq_true, Bool.or_eq_true, Bool.not_eq_true', decide_eq_false_iff_not, and_true, true_and]; (first | omega | (and_intros <;> intros <;> (try and_intros) <;> first | omega | assumption | exact trivial))))) ?_
      refine good_run 8 (obs := []) (by kernel_rfl) trivial ?_
      refine good_own (c := True) (by kernel_rfl) (by kernel_rfl) (SVles.refl _) (s48 (l) (b) ((1048576 : Int)) (by (first | omega | assumption | exact ⟨rfl, trivial⟩ | simp only [AllP, inK_iff, roomOK_iff, decide_eq_true_eq, Bool.and_eq_true, Bool.or_eq_true, Bool.not_eq_true', decide_eq_false_iff_not, and_true, true_and]; (first | omega | (and_intros <;> intros <;> (try and_intros) <;> first | omega | assumption | exact trivial))))) ?_
      refine good_run 2 (obs := []) (by kernel_rfl) trivial ?_
      refine good_take (by kernel_rfl) (SVles.refl _) (SVles.refl _) (s47 (joinP (cutL l (0 : Int) a) w) (cutL l b (1048576 : Int)) (by (first | omega | assumption | exact ⟨rfl, trivial⟩ | simp only [AllP, inK_iff, roomOK_iff, decide_eq_true_eq, Bool.and_eq_true, Bool.or_eq_true, Bool.not_eq_true', decide_eq_false_iff_not, and_true, true_and]; (first | omega | (and_intros <;> intros <;> (try and_intros) <;> first | omega | assumption | exact trivial)))) (by (first | omega | assumption | exact ⟨rfl, trivial⟩ | simp only [AllP, inK_iff, roomOK_iff, decide_eq_true_eq, Bool.and_eq_true, Bool.or_eq_true, Bool.not_eq_true', decide_eq_false_iff_not, and_true, true_and]; (first | omega | (and_intros <;> intros <;> (try and_intros) <;> first | omega | assumption | exact trivial))))) ?_
      refine good_run 14 (obs := []) (by kernel_rfl) trivial ?_
      refine good_cond (decide ((1024 : Int) < (↑(List.length (joinP (joinP (cutL l (0 : Int) a) w) (cutL l b (1048576 : Int)))) : Int))) (by kernel_rfl) (fun hc3 => ?_) (fun hc3 => ?_)
      rotate_left 2
      refine good_run 2 (obs := []) (by kernel_rfl) trivial ?_
      refine good_pick [5, 8] (by kernel_rfl) ⟨?_, ?_, trivial⟩
      refine good_take (by kernel_rfl) (SVles.refl _) (SVles.refl _) (s47 (cutL l (0 : Int) a) (w) (by (first | omega | assumption | exact ⟨rfl, trivial⟩ | simp only [AllP, inK_iff, roomOK_iff, decide_eq_true_eq, Bool.and_eq_true, Bool.or_eq_true, Bool.not_eq_true', decide_eq_false_iff_not, and_true, true_and]; (first | omega | (and_intros <;> intros <;> (try and_intros) <;> first | omega | assumption | exact trivial)))) (by (first | omega | assumption | exact ⟨rfl, trivial⟩ | simp only [AllP, inK_iff, roomOK_iff, decide_eq_true_eq, Bool.and_eq_true, Bool.or_eq_true, Bool.not_eq_true', decide_eq_false_iff_not, and_true, true_and]; (first | omega | (and_intros <;> intros <;> (try and_intros) <;> first | omega | assumption | exact trivial))))) ?_
      refine good_run 5 (obs := []) (by kernel_rfl) trivial ?_
      refine good_own (c := True) (by kernel_rfl) (by kernel_rfl) (SVles.refl _) (s48 (l) (b) ((1048576 : Int)) (by (first | omega | assumption | exact ⟨rfl, trivial⟩ | simp only [AllP, inK_iff, roomOK_iff, decide_eq_true_eq, Bool.and_eq_true, Bool.or_eq_true, Bool.not_eq_true', decide_eq_false_iff_not, and_true, true_and]; (first | omega | (and_intros <;> intros <;> (try and_intros) <;> first | omega | assumption | exact trivial))))) ?_
      refine good_run 2 (obs := []) (by kernel_rfl) trivial ?_
      refine good_take (by kernel_rfl) (SVles.refl _) (SVles.refl _) (s47 (joinP (cutL l (0 : Int) a) w) (cutL l b (1048576 : Int)) (by (first | omega | assumption | exact ⟨rfl, trivial⟩ | simp only [AllP, inK_iff, roomOK_iff, decide_eq_true_eq, Bool.and_eq_true, Bool.or_eq_true, Bool.not_eq_true', decide_eq_false_iff_not, and_true, true_and]; (first | omega | (and_intros <;> intros <;> (try and_intros) <;> first | omega | assumption | exact trivial)))) (by (first | omega | assumption | exact ⟨rfl, trivial⟩ | simp only [AllP, inK_iff, roomOK_iff, decide_eq_true_eq, Bool.and_eq_true, Bool.or_eq_true, Bool.not_eq_true', decide_eq_false_iff_not, and_true, true_and]; (first | omega | (and_intros <;> intros <;> (try and_intros) <;> first | omega | assumption | exact trivial))))) ?_
      refine good_run 14 (obs := []) (by kernel_rfl) trivial ?_
      refine good_cond (decide ((1024 : Int) < (↑(List.length (joinP (joinP (cutL l (0 : Int) a) w) (cutL l b (1048576 : Int)))) : Int))) (by kernel_rfl) (fun hc3 => ?_) (fun hc3 => ?_)
      rotate_left 2
      refine good_run 3 (obs := []) (by kernel_rfl) trivial ?_
      refine good_take (by kernel_rfl) (SVles.refl _) (SVles.refl _) (s47 (cutL l (0 : Int) a) (w) (by (first | omega | assumption | exact ⟨rfl, trivial⟩ | simp only [AllP, inK_iff, roomOK_iff, decide_eq_true_eq, Bool.and_eq_true, Bool.or_eq_true, Bool.not_eq_true', decide_eq_false_iff_not, and_true, true_and]; (first | omega | (and_intros <;> intros <;> (try and_intros) <;> first | omega | assumption | exact trivial)))) (by (first | omega | assumption | exact ⟨rfl, trivial⟩ | simp only [AllP, inK_iff, roomOK_iff, decide_eq_true_eq, Bool.and_eq_true, Bool.or_eq_true, Bool.not_eq_true', decide_eq_false_iff_not, and_true, true_and]; (first | omega | (and_intros <;> intros <;> (try and_intros) <;> first | omega | assumption | exact trivial))))) ?_
      refine good_run 2 (obs := []) (by kernel_rfl) trivial ?_
      refine good_own (c := True) (by kernel_rfl) (by kernel_rfl) (SVles.refl _) (s48 (l) (b) ((1048576 : Int)) (by (first | omega | assumption | exact ⟨rfl, trivial⟩ | simp only [AllP, inK_iff, roomOK_iff, decide_eq_true_eq, Bool.and_eq_true, Bool.or_eq_true, Bool.not_eq_true', decide_eq_false_iff_not, and_true, true_and]; (first | omega | (and_intros <;> intros <;> (try and_intros) <;> first | omega | assumption | exact trivial))))) ?_
      refine good_run 2 (obs := []) (by kernel_rfl) trivial ?_
      refine good_take (by kernel_rfl) (SVles.refl _) (SVles.refl _) (s47 (joinP (cutL l (0 : Int) a) w) (cutL l b (1048576 : Int)) (by (first | omega | assumption | exact ⟨rfl, trivial⟩ | simp only [AllP, inK_iff, roomOK_iff, decide_eq_true_eq, Bool.and_eq_true, Bool.or_eq_true, Bool.not_eq_true', decide_eq_false_iff_not, and_true, true_and]; (first | omega | (and_intros <;> intros <;> (try and_intros) <;> first | omega | assumption | exact trivial)))) (by (first | omega | assumption | exact ⟨rfl, trivial⟩ | simp only [AllP, inK_iff, roomOK_iff, decide_eq_true_eq, Bool.and_eq_true, Bool.or_eq_true, Bool.not_eq_true', decide_eq_false_iff_not, and_true, true_and]; (first | omega | (and_intros <;> intros <;> (try and_intros) <;> first | omega | assumption | exact trivial))))) ?_
      refine good_run 14 (obs := []) (by kernel_rfl) trivial ?_
      refine good_cond (decide ((1024 : Int) < (↑(List.length (joinP (joinP (cutL l (0 : Int) a) w) (cutL l b (1048576 : Int)))) : Int))) (by kernel_rfl) (fun hc3 => ?_) (fun hc3 => ?_)
      rotate_left 2
      refine good_run 2 (obs := []) (by kernel_rfl) trivial ?_
      refine good_pick [3, 8] (by kernel_rfl) ⟨?_, ?_, trivial⟩
      refine good_own (c := True) (by kernel_rfl) (by kernel_rfl) (SVles.refl _) (s48 (l) ((0 : Int)) (a) (by (first | omega | assumption | exact ⟨rfl, trivial⟩ | simp only [AllP, inK_iff, roomOK_iff, decide_eq_true_eq, Bool.and_eq_true, Bool.or_eq_true, Bool.not_eq_true', decide_eq_false_iff_not, and_true, true_and]; (first | omega | (and_intros <;> intros <;> (try and_intros) <;> first | omega | assumption | exact trivial))))) ?_
      refine good_run 1 (obs := []) (by kernel_rfl) trivial ?_
      refine good_pick [5, 8] (by kernel_rfl) ⟨?_, ?_, trivial⟩
      refine good_take (by kernel_rfl) (SVles.refl _) (SVles.refl _) (s47 (cutL l (0 : Int) a) (w) (by (first | omega | assumption | exact ⟨rfl, trivial⟩ | simp only [AllP, inK_iff, roomOK_iff, decide_eq_true_eq, Bool.and_eq_true, Bool.or_eq_true, Bool.not_eq_true', decide_eq_false_iff_not, and_true, true_and]; (first | omega | (and_intros <;> intros <;> (try and_intros) <;> first | omega | assumption | exact trivial)))) (by (first | omega | assumption | exact ⟨rfl, trivial⟩ | simp only [AllP, inK_iff, roomOK_iff, decide_eq_true_eq, Bool.and_eq_true, Bool.or_eq_true, Bool.not_eq_true', decide_eq_false_iff_not, and_true, true_and]; (first | omega | (and_intros <;> intros <;> (try and_intros) <;> first | omega | assumption | exact trivial))))) ?_
      refine good_run 5 (obs := []) (by kernel_rfl) trivial ?_
      refine good_own (c := True) (by kernel_rfl) (by kernel_rfl) (SVles.refl _) (s48 (l) (b) ((1048576 : Int)) (by (first | omega | assumption | exact ⟨rfl, trivial⟩ | simp only [AllP, inK_iff, roomOK_iff, decide_eq_true_eq, Bool.and_eq_true, Bool.or_eq_true, Bool.not_eq_true', decide_eq_false_iff_not, and_true, true_and]; (first | omega | (and_intros <;> intros <;> (try and_intros) <;> first | omega | assumption | exact trivial))))) ?_
      refine good_run 2 (obs := []) (by kernel_rfl) trivial ?_
      refine good_take (by kernel_rfl) (SVles.refl _) (SVles.refl _) (s47 (joinP (cutL l (0 : Int) a) w) (cutL l b (1048576 : Int)) (by (first | omega | assumption | exact ⟨rfl, trivial⟩ | simp only [AllP, inK_iff, roomOK_iff, decide_eq_true_eq, Bool.and_eq_true, Bool.or_eq_true, Bool.not_eq_true', decide_eq_false_iff_not, and_true, true_and]; (first | omega | (and_intros <;> intros <;> (try and_intros) <;> first | omega | assumption | exact trivial)))) (by (first | omega | assumption | exact ⟨rfl, trivial⟩ | simp only [AllP, inK_iff, roomOK_iff, decide_eq_true_eq, Bool.and_eq_true, Bool.or_eq_true, Bool.not_eq_true', decide_eq_false_iff_not, and_true, true_and]; (first | omega | (and_intros <;> intros <;> (try and_intros) <;> first | omega | assumption | exact trivial))))) ?_
      refine good_run 14 (obs := []) (by kernel_rfl) trivial ?_
      refine good_cond (decide ((1024 : Int) < (↑(List.length (joinP (joinP (cutL l (0 : Int) a) w) (cutL l b (1048576 : Int)))) : Int))) (by kernel_rfl) (fun hc3 => ?_) (fun hc3 => ?_)
      rotate_left 2
      refine good_run 3 (obs := []) (by kernel_rfl) trivial ?_
      refine good_take (by kernel_rfl) (SVles.refl _) (SVles.refl _) (s47 (cutL l (0 : Int) a) (w) (by (first | omega | assumption | exact ⟨rfl, trivial⟩ | simp only [AllP, inK_iff, roomOK_iff, decide_eq_true_eq, Bool.and_eq_true, Bool.or_eq_true, Bool.not_eq_true', decide_eq_false_iff_not, and_true, true_and]; (first | omega | (and_intros <;> intros <;> (try and_intros) <;> first | omega | assumption | exact trivial)))) (by (first | omega | assumption | exact ⟨rfl, trivial⟩ | simp only [AllP, inK_iff, roomOK_iff, decide_eq_true_eq, Bool.and_eq_true, Bool.or_eq_true, Bool.not_eq_true', decide_eq_false_iff_not, and_true, true_and]; (first | omega | (and_intros <;> intros <;> (try and_intros) <;> first | omega | assumption | exact trivial))))) ?_
      refine good_run 2 (obs := []) (by kernel_rfl) trivial ?_
      refine good_own (c := True) (by kernel_rfl) (by kernel_rfl) (SVles.refl _) (s48 (l) (b) ((1048576 : Int)) (by (first | omega | assumption | exact ⟨rfl, trivial⟩ | simp only [AllP, inK_iff, roomOK_iff, decide_eq_true_eq, Bool.and_eq_true, Bool.or_eq_true, Bool.not_eq_true', decide_eq_false_iff_not, and_true, true_and]; (first | omega | (and_intros <;> intros <;> (try and_intros) <;> first | omega | assumption | exact trivial))))) ?_
      refine good_run 2 (obs := []) (by kernel_rfl) trivial ?_
      refine good_take (by kernel_rfl) (SVles.refl _) (SVles.refl _) (s47 (joinP (cutL l (0 : Int) a) w) (cutL l b (1048576 : Int)) (by (first | omega | assumption | exact ⟨rfl, trivial⟩ | simp only [AllP, inK_iff, roomOK_iff, decide_eq_true_eq, Bool.and_eq_true, Bool.or_eq_true, Bool.not_eq_true', decide_eq_false_iff_not, and_true, true_and]; (first | omega | (and_intros <;> intros <;> (try and_intros) <;> first | omega | assumption | exact trivial)))) (by (first | omega | assumption | exact ⟨rfl, trivial⟩ | simp only [AllP, inK_iff, roomOK_iff, decide_eq_true_eq, Bool.and_eq_true, Bool.or_eq_true, Bool.not_eq_true', decide_eq_false_iff_not, and_true, true_and]; (first | omega | (and_intros <;> intros <;> (try and_intros) <;> first | omega | assumption | exact trivial))))) ?_
      refine good_run 14 (obs := []) (by kernel_rfl) trivial ?_
      refine good_cond (decide ((1024 : Int) < (↑(List.length (joinP (joinP (cutL l (0 : Int) a) w) (cutL l b (1048576 : Int)))) : Int))) (by kernel_rfl) (fun hc3 => ?_) (fun hc3 => ?_)
      rotate_left 2
      refine good_run 3 (obs := []) (by kernel_rfl) trivial ?_
      refine good_own (c := True) (by kernel_rfl) (by kernel_rfl) (SVles.refl _) (s48 (l) ((0 : Int)) (a) (by (first | omega | assumption | exact ⟨rfl, trivial⟩ | simp only [AllP, inK_iff, roomOK_iff, decide_eq_true_eq, Bool.and_eq_true, Bool.or_eq_true, Bool.not_eq_true', decide_eq_false_iff_not, and_true, true_and]; (first | omega | (and_intros <;> intros <;> (try and_intros) <;> first | omega | assumption | exact trivial))))) ?_
      refine good_run 2 (obs := []) (by kernel_rfl) trivial ?_
      refine good_take (by kernel_rfl) (SVles.refl _) (SVles.refl _) (s47 (cutL l (0 : Int) a) (w) (by (first | omega | assumption | exact ⟨rfl, trivial⟩ | simp only [AllP, inK_iff, roomOK_iff, decide_eq_true_eq, Bool.and_eq_true, Bool.or_eq_true, Bool.not_eq_true', decide_eq_false_iff_not, and_true, true_and]; (first | omega | (and_intros <;> intros <;> (try and_intros) <;> first | omega | assumption | exact trivial)))) (by (first | omega | assumption | exact ⟨rfl, trivial⟩ | simp only [AllP, inK_iff, roomOK_iff, decide_eq_true_eq, Bool.and_eq_true, Bool.or_eq_true, Bool.not_eq_true', decide_eq_false_iff_not, and_true, true_and]; (first | omega | (and_intros <;> intros <;> (try and_intros) <;> first | omega | assumption | exact trivial))))) ?_
      refine good_run 2 (obs := []) (by kernel_rfl) trivial ?_
      refine good_own (c := True) (by kernel_rfl) (by kernel_rfl) (SVles.refl _) (s48 (l) (b) ((1048576 : Int)) (by (first | omega | assumption | exact ⟨rfl, trivial⟩ | simp only [AllP, inK_iff, roomOK_iff, decide_eq_true_eq, Bool.and_eq_true, Bool.or_eq_true, Bool.not_eq_true', decide_eq_false_iff_not, and_true, true_and]; (first | omega | (and_intros <;> intros <;> (try and_intros) <;> first | omega | assumption | exact trivial))))) ?_
      refine good_run 2 (obs := []) (by kernel_rfl) trivial ?_
      refine good_take (by kernel_rfl) (SVles.refl _) (SVles.refl _) (s47 (joinP (cutL l (0 : Int) a) w) (cutL l b (1048576 : Int)) (by (first | omega | assumption | exact ⟨rfl, trivial⟩ | simp only [AllP, inK_iff, roomOK_iff, decide_eq_true_eq, Bool.and_eq_true, Bool.or_eq_true, Bool.not_eq_true', decide_eq_false_iff_not, and_true, true_and]; (first | omega | (and_intros <;> intros <;> (try and_intros) <;> first | omega | assumption | exact trivial)))) (by (first | omega | assumption | exact ⟨rfl, trivial⟩ | simp only [AllP, inK_iff, roomOK_iff, decide_eq_true_eq, Bool.and_eq_true, Bool.or_eq_true, Bool.not_eq_true', decide_eq_false_iff_not, and_true, true_and]; (first | omega | (and_intros <;> intros <;> (try and_intros) <;> first | omega | assumption | exact trivial))))) ?_
      refine good_run 14 (obs := []) (by kernel_rfl) trivial ?_
      refine good_cond (decide ((1024 : Int) < (↑(List.length (joinP (joinP (cutL l (0 : Int) a) w) (cutL l b (1048576 : Int)))) : Int))) (by kernel_rfl) (fun hc3 => ?_) (fun hc3 => ?_)
      rotate_left 2
      refine good_run 2 (obs := []) (by kernel_rfl) trivial ?_
      refine good_pick [2, 8] (by kernel_rfl) ⟨?_, ?_, trivial⟩
      refine good_run 2 (obs := []) (by kernel_rfl) trivial ?_
      refine good_pick [3, 8] (by kernel_rfl) ⟨?_, ?_, trivial⟩
      refine good_own (c := True) (by kernel_rfl) (by kernel_rfl) (SVles.refl _) (s48 (l) ((0 : Int)) (a) (by (first | omega | assumption | exact ⟨rfl, trivial⟩ | simp only [AllP, inK_iff, roomOK_iff, decide_eq_true_eq, Bool.and_eq_true, Bool.or_eq_true, Bool.not_eq_true', decide_eq_false_iff_not, and_true, true_and]; (first | omega | (and_intros <;> intros <;> (try and_intros) <;> first | omega | assumption | exact trivial))))) ?_
      refine good_run 1 (obs := []) (by kernel_rfl) trivial ?_
      refine good_pick [5, 8] (by kernel_rfl) ⟨?_, ?_, trivial⟩
      refine good_take (by kernel_rfl) (SVles.refl _) (SVles.refl _) (s47 (cutL l (0 : Int) a) (w) (by (first | omega | assumption | exact ⟨rfl, trivial⟩ | simp only [AllP, inK_iff, roomOK_iff, decide_eq_true_eq, Bool.and_eq_true, Bool.or_eq_true, Bool.not_eq_true', decide_eq_false_iff_not, and_true, true_and]; (first | omega | (and_intros <;> intros <;> (try and_intros) <;> first | omega | assumption | exact trivial)))) (by (first | omega | assumption | exact ⟨rfl, trivial⟩ | simp only [AllP, inK_iff, roomOK_iff, decide_eq_true_eq, Bool.and_eq_true, Bool.or_eq_true, Bool.not_eq_true', decide_eq_false_iff_not, and_true, true_and]; (first | omega | (and_intros <;> intros <;> (try and_intros) <;> first | omega | assumption | exact trivial))))) ?_
      refine good_run 5 (obs := []) (by kernel_rfl) trivial ?_
      refine good_own (c := True) (by kernel_rfl) (by kernel_rfl) (SVles.refl _) (s48 (l) (b) ((1048576 : Int)) (by (first | omega | assumption | exact ⟨rfl, trivial⟩ | simp only [AllP, inK_iff, roomOK_iff, decide_eq_true_eq, Bool.and_eq_true, Bool.or_eq_true, Bool.not_eq_true', decide_eq_false_iff_not, and_true, true_and]; (first | omega | (and_intros <;> intros <;> (try and_intros) <;> first | omega | assumption | exact trivial))))) ?_
      refine good_run 2 (obs := []) (by kernel_rfl) trivial ?_
      refine good_take (by kernel_rfl) (SVles.refl _) (SVles.refl _) (s47 (joinP (cutL l (0 : Int) a) w) (cutL l b (1048576 : Int)) (by (first | omega | assumption | exact ⟨rfl, trivial⟩ | simp only [AllP, inK_iff, roomOK_iff, decide_eq_true_eq, Bool.and_eq_true, Bool.or_eq_true, Bool.not_eq_true', decide_eq_false_iff_not, and_true, true_and]; (first | omega | (and_intros <;> intros <;> (try and_intros) <;> first | omega | assumption | exact trivial)))) (by (first | omega | assumption | exact ⟨rfl, trivial⟩ | simp only [AllP, inK_iff, roomOK_iff, decide_eq_true_eq, Bool.and_eq_true, Bool.or_eq_true, Bool.not_eq_true', decide_eq_false_iff_not, and_true, true_and]; (first | omega | (and_intros <;> intros <;> (try and_intros) <;> first | omega | assumption | exact trivial))))) ?_
      refine good_run 14 (obs := []) (by kernel_rfl) trivial ?_
      refine good_cond (decide ((1024 : Int) < (↑(List.length (joinP (joinP (cutL l (0 : Int) a) w) (cutL l b (1048576 : Int)))) : Int))) (by kernel_rfl) (fun hc3 => ?_) (fun hc3 => ?_)
      rotate_left 2
      refine good_run 3 (obs := []) (by kernel_rfl) trivial ?_
      refine good_take (by kernel_rfl) (SVles.refl _) (SVles.refl _) (s47 (cutL l (0 : Int) a) (w) (by (first | omega | assumption | exact ⟨rfl, trivial⟩ | simp only [AllP, inK_iff, roomOK_iff, decide_eq_true_eq, Bool.and_eq_true, Bool.or_eq_true, Bool.not_eq_true', decide_eq_false_iff_not, and_true, true_and]; (first | omega | (and_intros <;> intros <;> (try and_intros) <;> first | omega | assumption | exact trivial)))) (by (first | omega | assumption | exact ⟨rfl, trivial⟩ | simp only [AllP, inK_iff, roomOK_iff, decide_eq_true_eq, Bool.and_eq_true, Bool.or_eq_true, Bool.not_eq_true', decide_eq_false_iff_not, and_true, true_and]; (first | omega | (and_intros <;> intros <;> (try and_intros) <;> first | omega | assumption | exact trivial))))) ?_
      refine good_run 2 (obs := []) (by kernel_rfl) trivial ?_
      refine good_own (c := True) (by kernel_rfl) (by kernel_rfl) (SVles.refl _) (s48 (l) (b) ((1048576 : Int)) (by (first | omega | assumption | exact ⟨rfl, trivial⟩ | simp only [AllP, inK_iff, roomOK_iff, decide_eq_true_eq, Bool.and_eq_true, Bool.or_eq_true, Bool.not_eq_true', decide_eq_false_iff_not, and_true, true_and]; (first | omega | (and_intros <;> intros <;> (try and_intros) <;> first | omega | assumption | exact trivial))))) ?_
      refine good_run 2 (obs := []) (by kernel_rfl) trivial ?_
      refine good_take (by kernel_rfl) (SVles.refl _) (SVles.refl _) (s47 (joinP (cutL l (0 : Int) a) w) (cutL l b (1048576 : Int)) (by (first | omega | assumption | exact ⟨rfl, trivial⟩ | simp only [AllP, inK_iff, roomOK_iff, decide_eq_true_eq, Bool.and_eq_true, Bool.or_eq_true, Bool.not_eq_true', decide_eq_false_iff_not, and_true, true_and]; (first | omega | (and_intros <;> intros <;> (try and_intros) <;> first | omega | assumption | exact trivial)))) (by (first | omega | assumption | exact ⟨rfl, trivial⟩ | simp only [AllP, inK_iff, roomOK_iff, decide_eq_true_eq, Bool.and_eq_true, Bool.or_eq_true, Bool.not_eq_true', decide_eq_false_iff_not, and_true, true_and]; (first | omega | (and_intros <;> intros <;> (try and_intros) <;> first | omega | assumption | exact trivial))))) ?_
      refine good_run 14 (obs := []) (by kernel_rfl) trivial ?_
      refine good_cond (decide ((1024 : Int) < (↑(List.length (joinP (joinP (cutL l (0 : Int) a) w) (cutL l b (1048576 : Int)))) : Int))) (by kernel_rfl) (fun hc3 => ?_) (fun hc3 => ?_)
      rotate_left 2
      refine good_run 3 (obs := []) (by kernel_rfl) trivial ?_
      refine good_own (c := True) (by kernel_rfl) (by kernel_rfl) (SVles.refl _) (s48 (l) ((0 : Int)) (a) (by (first | omega | assumption | exact ⟨rfl, trivial⟩ | simp only [AllP, inK_iff, roomOK_iff, decide_eq_true_eq, Bool.and_eq_true, Bool.or_eq_true, Bool.not_eq_true', decide_eq_false_iff_not, and_true, true_and]; (first | omega | (and_intros <;> intros <;> (try and_intros) <;> first | omega | assumption | exact trivial))))) ?_
      refine good_run 2 (obs := []) (by kernel_rfl) trivial ?_
      refine good_take (by kernel_rfl) (SVles.refl _) (SVles.refl _) (s47 (cutL l (0 : Int) a) (w) (by (first | omega | assumption | exact ⟨rfl, trivial⟩ | simp only [AllP, inK_iff, roomOK_iff, decide_eq_true_eq, Bool.and_eq_true, Bool.or_eq_true, Bool.not_eq_true', decide_eq_false_iff_not, and_true, true_and]; (first | omega | (and_intros <;> intros <;> (try and_intros) <;> first | omega | assumption | exact trivial)))) (by (first | omega | assumption | exact ⟨rfl, trivial⟩ | simp only [AllP, inK_iff, roomOK_iff, decide_eq_true_eq, Bool.and_eq_true, Bool.or_eq_true, Bool.not_eq_true', decide_eq_false_iff_not, and_true, true_and]; (first | omega | (and_intros <;> intros <;> (try and_intros) <;> first | omega | assumption | exact trivial))))) ?_
      refine good_run 2 (obs := []) (by kernel_rfl) trivial ?_
      refine good_own (c := True) (by kernel_rfl) (by kernel_rfl) (SVles.refl _) (s48 (l) (b) ((1048576 : Int)) (by (first | omega | assumption | exact ⟨rfl, trivial⟩ | simp only [AllP, inK_iff, roomOK_iff, decide_eq_true_eq, Bool.and_eq_true, Bool.or_eq_true, Bool.not_eq_true', decide_eq_false_iff_not, and_true, true_and]; (first | omega | (and_intros <;> intros <;> (try and_intros) <;> first | omega | assumption | exact trivial))))) ?_
      refine good_run 2 (obs := []) (by kernel_rfl) trivial ?_
      refine good_take (by kernel_rfl) (SVles.refl _) (SVles.refl _) (s47 (joinP (cutL l (0 : Int) a) w) (cutL l b (1048576 : Int)) (by (first | omega | assumption | exact ⟨rfl, trivial⟩ | simp only [AllP, inK_iff, roomOK_iff, decide_eq_true_eq, Bool.and_eq_true, Bool.or_eq_true, Bool.not_eq_true', decide_eq_false_iff_not, and_true, true_and]; (first | omega | (and_intros <;> intros <;> (try and_intros) <;> first | omega | assumption | exact trivial)))) (by (first | omega | assumption | exact ⟨rfl, trivial⟩ | simp only [AllP, inK_iff, roomOK_iff, decide_eq_true_eq, Bool.and_eq_true, Bool.or_eq_true, Bool.not_eq_true', decide_eq_false_iff_not, and_true, true_and]; (first | omega | (and_intros <;> intros <;> (try and_intros) <;> first | omega | assumption | exact trivial))))) ?_
      refine good_run 14 (obs := []) (by kernel_rfl) trivial ?_
      refine good_cond (decide ((1024 : Int) < (↑(List.length (joinP (joinP (cutL l (0 : Int) a) w) (cutL l b (1048576 : Int)))) : Int))) (by kernel_rfl) (fun hc3 => ?_) (fun hc3 => ?_)
      rotate_left 2
      refine good_run 6 (obs := []) (by kernel_rfl) trivial ?_
      refine good_own (c := True) (by kernel_rfl) (by kernel_rfl) (SVles.refl _) (s48 (l) ((0 : Int)) (a) (by (first | omega | assumption | exact ⟨rfl, trivial⟩ | simp only [AllP, inK_iff, roomOK_iff, decide_eq_true_eq, Bool.and_eq_true, Bool.or_eq_true, Bool.not_eq_true', decide_eq_false_iff_not, and_true, true_and]; (first | omega | (and_intros <;> intros <;> (try and_intros) <;> first | omega | assumption | exact trivial))))) ?_
      refine good_run 2 (obs := []) (by kernel_rfl) trivial ?_
      refine good_take (by kernel_rfl) (SVles.refl _) (SVles.refl _) (s47 (cutL l (0 : Int) a) (w) (by (first | omega | assumption | exact ⟨rfl, trivial⟩ | simp only [AllP, inK_iff, roomOK_iff, decide_eq_true_eq, Bool.and_eq_true, Bool.or_eq_true, Bool.not_eq_true', decide_eq_false_iff_not, and_true, true_and]; (first | omega | (and_intros <;> intros <;> (try and_intros) <;> first | omega | assumption | exact trivial)))) (by (first | omega | assumption | exact ⟨rfl, trivial⟩ | simp only [AllP, inK_iff, roomOK_iff, decide_eq_true_eq, Bool.and_eq_true, Bool.or_eq_true, Bool.not_eq_true', decide_eq_false_iff_not, and_true, true_and]; (first | omega | (and_intros <;> intros <;> (try and_intros) <;> first | omega | assumption | exact trivial))))) ?_
      refine good_run 2 (obs := []) (by kernel_rfl) trivial ?_
      refine good_own (c := True) (by kernel_rfl) (by kernel_rfl) (SVles.refl _) (s48 (l) (b) ((1048576 : Int)) (by (first | omega | assumption | exact ⟨rfl, trivial⟩ | simp only [AllP, inK_iff, roomOK_iff, decide_eq_true_eq, Bool.and_eq_true, Bool.or_eq_true, Bool.not_eq_true', decide_eq_false_iff_not, and_true, true_and]; (first | omega | (and_intros <;> intros <;> (try and_intros) <;> first | omega | assumption | exact trivial))))) ?_
      refine good_run 2 (obs := []) (by kernel_rfl) trivial ?_
      refine good_take (by kernel_rfl) (SVles.refl _) (SVles.refl _) (s47 (joinP (cutL l (0 : Int) a) w) (cutL l b (1048576 : Int)) (by (first | omega | assumption | exact ⟨rfl, trivial⟩ | simp only [AllP, inK_iff, roomOK_iff, decide_eq_true_eq, Bool.and_eq_true, Bool.or_eq_true, Bool.not_eq_true', decide_eq_false_iff_not, and_true, true_and]; (first | omega | (and_intros <;> intros <;> (try and_intros) <;> first | omega | assumption | exact trivial)))) (by (first | omega | assumption | exact ⟨rfl, trivial⟩ | simp only [AllP, inK_iff, roomOK_iff, decide_eq_true_eq, Bool.and_eq_true, Bool.or_eq_true, Bool.not_eq_true', decide_eq_false_iff_not, and_true, true_and]; (first | omega | (and_intros <;> intros <;> (try and_intros) <;> first | omega | assumption | exact trivial))))) ?_
      refine good_run 14 (obs := []) (by kernel_rfl) trivial ?_
      refine good_cond (decide ((1024 : Int) < (↑(List.length (joinP (joinP (cutL l (0 : Int) a) w) (cutL l b (1048576 : Int)))) : Int))) (by kernel_rfl) (fun hc3 => ?_) (fun hc3 => ?_)
      rotate_left 2
      refine good_run 2 (obs := []) (by kernel_rfl) trivial ?_
      refine good_pick [1, 8] (by kernel_rfl) ⟨?_, ?_, trivial⟩
      refine good_run 2 (obs := []) (by kernel_rfl) trivial ?_
      refine good_pick [2, 8] (by kernel_rfl) ⟨?_, ?_, trivial⟩
      refine good_run 2 (obs := []) (by kernel_rfl) trivial ?_
      refine good_pick [3, 8] (by kernel_rfl) ⟨?_, ?_, trivial⟩
      refine good_own (c := True) (by kernel_rfl) (by kernel_rfl) (SVles.refl _) (s48 (l) ((0 : Int)) (a) (by (first | omega | assumption | exact ⟨rfl, trivial⟩ | simp only [AllP, inK_iff, roomOK_iff, decide_eq_true_eq, Bool.and_eq_true, Bool.or_eq_true, Bool.not_eq_true', decide_eq_false_iff_not, and_true, true_and]; (first | omega | (and_intros <;> intros <;> (try and_intros) <;> first | omega | assumption | exact trivial))))) ?_
      refine good_run 1 (obs := []) (by kernel_rfl) trivial ?_
      refine good_pick [5, 8] (by kernel_rfl) ⟨?_, ?_, trivial⟩
      refine good_take (by kernel_rfl) (SVles.refl _) (SVles.refl _) (s47 (cutL l (0 : Int) a) (w) (by (first | omega | assumption | exact ⟨rfl, trivial⟩ | simp only [AllP, inK_iff, roomOK_iff, decide_eq_true_eq, Bool.and_eq_true, Bool.or_eq_true, Bool.not_eq_true', decide_eq_false_iff_not, and_true, true_and]; (first | omega | (and_intros <;> intros <;> (try and_intros) <;> first | omega | assumption | exact trivial)))) (by (first | omega | assumption | exact ⟨rfl, trivial⟩ | simp only [AllP, inK_iff, roomOK_iff, decide_eq_true_eq, Bool.and_eq_true, Bool.or_eq_true, Bool.not_eq_true', decide_eq_false_iff_not, and_true, true_and]; (first | omega | (and_intros <;> intros <;> (try and_intros) <;> first | omega | assumption | exact trivial))))) ?_
      refine good_run 5 (obs := []) (by kernel_rfl) trivial ?_
      refine good_own (c := True) (by kernel_rfl) (by kernel_rfl) (SVles.refl _) (s48 (l) (b) ((1048576 : Int)) (by (first | omega | assumption | exact ⟨rfl, trivial⟩ | simp only [AllP, inK_iff, roomOK_iff, decide_eq_true_eq, Bool.and_eq_true, Bool.or_eq_true, Bool.not_eq_true', decide_eq_false_iff_not, and_true, true_and]; (first | omega | (and_intros <;> intros <;> (try and_intros) <;> first | omega | assumption | exact trivial))))) ?_
      refine good_run 2 (obs := []) (by kernel_rfl) trivial ?_
      refine good_take (by kernel_rfl) (SVles.refl _) (SVles.refl _) (s47 (joinP (cutL l (0 : Int) a) w) (cutL l b (1048576 : Int)) (by (first | omega | assumption | exact ⟨rfl, trivial⟩ | simp only [AllP, inK_iff, roomOK_iff, decide_eq_true_eq, Bool.and_eq_true, Bool.or_eq_true, Bool.not_eq_true', decide_eq_false_iff_not, and_true, true_and]; (first | omega | (and_intros <;> intros <;> (try and_intros) <;> first | omega | assumption | exact trivial)))) (by (first | omega | assumption | exact ⟨rfl, trivial⟩ | simp only [AllP, inK_iff, roomOK_iff, decide_eq_true_eq, Bool.and_eq_true, Bool.or_eq_true, Bool.not_eq_true', decide_eq_false_iff_not, and_true, true_and]; (first | omega | (and_intros <;> intros <;> (try and_intros) <;> first | omega | assumption | exact trivial))))) ?_
      refine good_run 14 (obs := []) (by kernel_rfl) trivial ?_
      refine good_cond (decide ((1024 : Int) < (↑(List.length (joinP (joinP (cutL l (0 : Int) a) w) (cutL l b (1048576 : Int)))) : Int))) (by kernel_rfl) (fun hc3 => ?_) (fun hc3 => ?_)
      rotate_left 2
      refine good_run 3 (obs := []) (by kernel_rfl) trivial ?_
      refine good_take (by kernel_rfl) (SVles.refl _) (SVles.refl _) (s47 (cutL l (0 : Int) a) (w) (by (first | omega | assumption | exact ⟨rfl, trivial⟩ | simp only [AllP, inK_iff, roomOK_iff, decide_eq_true_eq, Bool.and_eq_true, Bool.or_eq_true, Bool.not_eq_true', decide_eq_false_iff_not, and_true, true_and]; (first | omega | (and_intros <;> intros <;> (try and_intros) <;> first | omega | assumption | exact trivial)))) (by (first | omega | assumption | exact ⟨rfl, trivial⟩ | simp only [AllP, inK_iff, roomOK_iff, decide_eq_true_eq, Bool.and_eq_true, Bool.or_eq_true, Bool.not_eq_true', decide_eq_false_iff_not, and_true, true_and]; (first | omega | (and_intros <;> intros <;> (try and_intros) <;> first | omega | assumption | exact trivial))))) ?_
      refine good_run 2 (obs := []) (by kernel_rfl) trivial ?_
      refine good_own (c := True) (by kernel_rfl) (by kernel_rfl) (SVles.refl _) (s48 (l) (b) ((1048576 : Int)) (by (first | omega | assumption | exact ⟨rfl, trivial⟩ | simp only [AllP, inK_iff, roomOK_iff, decide_eq_true_eq, Bool.and_eq_true, Bool.or_eq_true, Bool.not_eq_true', decide_eq_false_iff_not, and_true, true_and]; (first | omega | (and_intros <;> intros <;> (try and_intros) <;> first | omega | assumption | exact trivial))))) ?_
      refine good_run 2 (obs := []) (by kernel_rfl) trivial ?_
      refine good_take (by kernel_rfl) (SVles.refl _) (SVles.refl _) (s47 (joinP (cutL l (0 : Int) a) w) (cutL l b (1048576 : Int)) (by (first | omega | assumption | exact ⟨rfl, trivial⟩ | simp only [AllP, inK_iff, roomOK_iff, decide_eq_true_eq, Bool.and_eq_true, Bool.or_eq_true, Bool.not_eq_true', decide_eq_false_iff_not, and_true, true_and]; (first | omega | (and_intros <;> intros <;> (try and_intros) <;> first | omega | assumption | exact trivial)))) (by (first | omega | assumption | exact ⟨rfl, trivial⟩ | simp only [AllP, inK_iff, roomOK_iff, decide_eq_true_eq, Bool.and_eq_true, Bool.or_eq_true, Bool.not_eq_true', decide_eq_false_iff_not, and_true, true_and]; (first | omega | (and_intros <;> intros <;> (try and_intros) <;> first | omega | assumption | exact trivial))))) ?_
      refine good_run 14 (obs := []) (by kernel_rfl) trivial ?_
      refine good_cond (decide ((1024 : Int) < (↑(List.length (joinP (joinP (cutL l (0 : Int) a) w) (cutL l b (1048576 : Int)))) : Int))) (by kernel_rfl) (fun hc3 => ?_) (fun hc3 => ?_)
      rotate_left 2
      refine good_run 3 (obs := []) (by kernel_rfl) trivial ?_
      refine good_own (c := True) (by kernel_rfl) (by kernel_rfl) (SVles.refl _) (s48 (l) ((0 : Int)) (a) (by (first | omega | assumption | exact ⟨rfl, trivial⟩ | simp only [AllP, inK_iff, roomOK_iff, decide_eq_true_eq, Bool.and_eq_true, Bool.or_eq_true, Bool.not_eq_true', decide_eq_false_iff_not, and_true, true_and]; (first | omega | (and_intros <;> intros <;> (try and_intros) <;> first | omega | assumption | exact trivial))))) ?_
      refine good_run 2 (obs := []) (by kernel_rfl) trivial ?_
      refine good_take (by kernel_rfl) (SVles.refl _) (SVles.refl _) (s47 (cutL l (0 : Int) a) (w) (by (first | omega | assumption | exact ⟨rfl, trivial⟩ | simp only [AllP, inK_iff, roomOK_iff, decide_eq_true_eq, Bool.and_eq_true, Bool.or_eq_true, Bool.not_eq_true', decide_eq_false_iff_not, and_true, true_and]; (first | omega | (and_intros <;> intros <;> (try and_intros) <;> first | omega | assumption | exact trivial)))) (by (first | omega | assumption | exact ⟨rfl, trivial⟩ | simp only [AllP, inK_iff, roomOK_iff, decide_eq_true_eq, Bool.and_eq_true, Bool.or_eq_true, Bool.not_eq_true', decide_eq_false_iff_not, and_true, true_and]; (first | omega | (and_intros <;> intros <;> (try and_intros) <;> first | omega | assumption | exact trivial))))) ?_
      refine good_run 2 (obs := []) (by kernel_rfl) trivial ?_
      refine good_own (c := True) (by kernel_rfl) (by kernel_rfl) (SVles.refl _) (s48 (l) (b) ((1048576 : Int)) (by (first | omega | assumption | exact ⟨rfl, trivial⟩ | simp only [AllP, inK_iff, roomOK_iff, decide_eq_true_eq, Bool.and_eq_true, Bool.or_eq_true, Bool.not_eq_true', decide_eq_false_iff_not, and_true, true_and]; (first | omega | (and_intros <;> intros <;> (try and_intros) <;> first | omega | assumption | exact trivial))))) ?_
      refine good_run 2 (obs := []) (by kernel_rfl) trivial ?_
      refine good_take (by kernel_rfl) (SVles.refl _) (SVles.refl _) (s47 (joinP (cutL l (0 : Int) a) w) (cutL l b (1048576 : Int)) (by (first | omega | assumption | exact ⟨rfl, trivial⟩ | simp only [AllP, inK_iff, roomOK_iff, decide_eq_true_eq, Bool.and_eq_true, Bool.or_eq_true, Bool.not_eq_true', decide_eq_false_iff_not, and_true, true_and]; (first | omega | (and_intros <;> intros <;> (try and_intros) <;> first | omega | assumption | exact trivial)))) (by (first | omega | assumption | exact ⟨rfl, trivial⟩ | simp only [AllP, inK_iff, roomOK_iff, decide_eq_true_eq, Bool.and_eq_true, Bool.or_eq_true, Bool.not_eq_true', decide_eq_false_iff_not, and_true, true_and]; (first | omega | (and_intros <;> intros <;> (try and_intros) <;> first | omega | assumption | exact trivial))))) ?_
      refine good_run 14 (obs := []) (by kernel_rfl) trivial ?_
      refine good_cond (decide ((1024 : Int) < (↑(List.length (joinP (joinP (cutL l (0 : Int) a) w) (cutL l b (1048576 : Int)))) : Int))) (by kernel_rfl) (fun hc3 => ?_) (fun hc3 => ?_)
      rotate_left 2
      refine good_run 6 (obs := []) (by kernel_rfl) trivial ?_
      refine good_own (c := True) (by kernel_rfl) (by kernel_rfl) (SVles.refl _) (s48 (l) ((0 : Int)) (a) (by (first | omega | assumption | exact ⟨rfl, trivial⟩ | simp only [AllP, inK_iff, roomOK_iff, decide_eq_true_eq, Bool.and_eq_true, Bool.or_eq_true, Bool.not_eq_true', decide_eq_false_iff_not, and_true, true_and]; (first | omega | (and_intros <;> intros <;> (try and_intros) <;> first | omega | assumption | exact trivial))))) ?_
      refine good_run 2 (obs := []) (by kernel_rfl) trivial ?_
      refine good_take (by kernel_rfl) (SVles.refl _) (SVles.refl _) (s47 (cutL l (0 : Int) a) (w) (by (first | omega | assumption | exact ⟨rfl, trivial⟩ | simp only [AllP, inK_iff, roomOK_iff, decide_eq_true_eq, Bool.and_eq_true, Bool.or_eq_true, Bool.not_eq_true', decide_eq_false_iff_not, and_true, true_and]; (first | omega | (and_intros <;> intros <;> (try and_intros) <;> first | omega | assumption | exact trivial)))) (by (first | omega | assumption | exact ⟨rfl, trivial⟩ | simp only [AllP, inK_iff, roomOK_iff, decide_eq_true_eq, Bool.and_eq_true, Bool.or_eq_true, Bool.not_eq_true', decide_eq_false_iff_not, and_true, true_and]; (first | omega | (and_intros <;> intros <;> (try and_intros) <;> first | omega | assumption | exact trivial))))) ?_
      refine good_run 2 (obs := []) (by kernel_rfl) trivial ?_
      refine good_own (c := True) (by kernel_rfl) (by kernel_rfl) (SVles.refl _) (s48 (l) (b) ((1048576 : Int)) (by (first | omega | assumption | exact ⟨rfl, trivial⟩ | simp only [AllP, inK_iff, roomOK_iff, decide_eq_true_eq, Bool.and_eq_true, Bool.or_eq_true, Bool.not_eq_true', decide_eq_false_iff_not, and_true, true_and]; (first | omega | (and_intros <;> intros <;> (try and_intros) <;> first | omega | assumption | exact trivial))))) ?_
      refine good_run 2 (obs := []) (by kernel_rfl) trivial ?_
      refine good_take (by kernel_rfl) (SVles.refl _) (SVles.refl _) (s47 (joinP (cutL l (0 : Int) a) w) (cutL l b (1048576 : Int)) (by (first | omega | assumption | exact ⟨rfl, trivial⟩ | simp only [AllP, inK_iff, roomOK_iff, decide_eq_true_eq, Bool.and_eq_true, Bool.or_eq_true, Bool.not_eq_true', decide_eq_false_iff_not, and_true, true_and]; (first | omega | (and_intros <;> intros <;> (try and_intros) <;> first | omega | assumption | exact trivial)))) (by (first | omega | assumption | exact ⟨rfl, trivial⟩ | simp only [AllP, inK_iff, roomOK_iff, decide_eq_true_eq, Bool.and_eq_true, Bool.or_eq_true, Bool.not_eq_true', decide_eq_false_iff_not, and_true, true_and]; (first | omega | (and_intros <;> intros <;> (try and_intros) <;> first | omega | assumption | exact trivial))))) ?_
      refine good_run 14 (obs := []) (by kernel_rfl) trivial ?_
      refine good_cond (decide ((1024 : Int) < (↑(List.length (joinP (joinP (cutL l (0 : Int) a) w) (cutL l b (1048576 : Int)))) : Int))) (by kernel_rfl) (fun hc3 => ?_) (fun hc3 => ?_)
      rotate_left 2
      refine good_run 9 (obs := []) (by kernel_rfl) trivial ?_
      refine good_own (c := True) (by kernel_rfl) (by kernel_rfl) (SVles.refl _) (s48 (l) ((0 : Int)) (a) (by (first | omega | assumption | exact ⟨rfl, trivial⟩ | simp only [AllP, inK_iff, roomOK_iff, decide_eq_true_eq, Bool.and_eq_true, Bool.or_eq_true, Bool.not_eq_true', decide_eq_false_iff_not, and_true, true_and]; (first | omega | (and_intros <;> intros <;> (try and_intros) <;> first | omega | assumption | exact trivial))))) ?_
      refine good_run 2 (obs := []) (by kernel_rfl) trivial ?_
      refine good_take (by kernel_rfl) (SVles.refl _) (SVles.refl _) (s47 (cutL l (0 : Int) a) (w) (by (first | omega | assumption | exact ⟨rfl, trivial⟩ | simp only [AllP, inK_iff, roomOK_iff, decide_eq_true_eq, Bool.and_eq_true, Bool.or_eq_true, Bool.not_eq_true', decide_eq_false_iff_not, and_true, true_and]; (first | omega | (and_intros <;> intros <;> (try and_intros) <;> first | omega | assumption | exact trivial)))) (by (first | omega | assumption | exact ⟨rfl, trivial⟩ | simp only [AllP, inK_iff, roomOK_iff, decide_eq_true_eq, Bool.and_eq_true, Bool.or_eq_true, Bool.not_eq_true', decide_eq_false_iff_not, and_true, true_and]; (first | omega | (and_intros <;> intros <;> (try and_intros) <;> first | omega | assumption | exact trivial))))) ?_
      refine good_run 2 (obs := []) (by kernel_rfl) trivial ?_
      refine good_own (c := True) (by kernel_rfl) (by kernel_rfl) (SVles.refl _) (s48 (l) (b) ((1048576 : Int)) (by (first | omega | assumption | exact ⟨rfl, trivial⟩ | simp only [AllP, inK_iff, roomOK_iff, decide_eq_true_eq, Bool.and_eq_true, Bool.or_eq_true, Bool.not_eq_true', decide_eq_false_iff_not, and_true, true_and]; (first | omega | (and_intros <;> intros <;> (try and_intros) <;> first | omega | assumption | exact trivial))))) ?_
      refine good_run 2 (obs := []) (by kernel_rfl) trivial ?_
      refine good_take (by kernel_rfl) (SVles.refl _) (SVles.refl _) (s47 (joinP (cutL l (0 : Int) a) w) (cutL l b (1048576 : Int)) (by (first | omega | assumption | exact ⟨rfl, trivial⟩ | simp only [AllP, inK_iff, roomOK_iff, decide_eq_true_eq, Bool.and_eq_true, Bool.or_eq_true, Bool.not_eq_true', decide_eq_false_iff_not, and_true, true_and]; (first | omega | (and_intros <;> intros <;> (try and_intros) <;> first | omega | assumption | exact trivial)))) (by (first | omega | assumption | exact ⟨rfl, trivial⟩ | simp only [AllP, inK_iff, roomOK_iff, decide_eq_true_eq, Bool.and_eq_true, Bool.or_eq_true, Bool.not_eq_true', decide_eq_false_iff_not, and_true, true_and]; (first | omega | (and_intros <;> intros <;> (try and_intros) <;> first | omega | assumption | exact trivial))))) ?_
      refine good_run 14 (obs := []) (by kernel_rfl) trivial ?_
      refine good_cond (decide ((1024 : Int) < (↑(List.length (joinP (joinP (cutL l (0 : Int) a) w) (cutL l b (1048576 : Int)))) : Int))) (by kernel_rfl) (fun hc3 => ?_) (fun hc3 => ?_)
      rotate_left 2
      · simp only [decide_eq_true_eq] at hc3
        rw [hr, if_pos (by unfold changeL; omega)]
        refine good_run 8 (obs := []) (by kernel_rfl) trivial ?_
        refine good_fin [(0 : Nat) = (0 : Nat), (8 : Int) = (8 : Int)] (by kernel_rfl) ⟨rfl, rfl, trivial⟩
      · simp only [decide_eq_false_iff_not] at hc3
        rw [hr, if_neg (by unfold changeL; omega)]
        refine good_run 9 (obs := []) (by kernel_rfl) trivial ?_
        refine good_fin [List.length (joinP (joinP (cutL l (0 : Int) a) w) (cutL l b (1048576 : Int))) = List.length (changeL l a b w, (0 : Int)).fst ∧ ∀ (i : Nat), i < List.length (joinP (joinP (cutL l (0 : Int) a) w) (cutL l b (1048576 : Int))) → (fun i => Piece.cells (List.getD (joinP (joinP (cutL l (0 : Int) a) w) (cutL l b (1048576 : Int))) i default)) i = (fun i => Piece.cells (List.getD (changeL l a b w, (0 : Int)).fst i default)) i, (0 : Int) = (0 : Int)] (by kernel_rfl) ⟨?_, rfl, trivial⟩
        exact ⟨rfl, fun _ _ => rfl⟩
      · simp only [decide_eq_true_eq] at hc3
        rw [hr, if_pos (by unfold changeL; omega)]
        refine good_run 8 (obs := []) (by kernel_rfl) trivial ?_
        refine good_fin [(0 : Nat) = (0 : Nat), (8 : Int) = (8 : Int)] (by kernel_rfl) ⟨rfl, rfl, trivial⟩
      · simp only [decide_eq_false_iff_not] at hc3
        rw [hr, if_neg (by unfold changeL; omega)]
        refine good_run 9 (obs := []) (by kernel_rfl) trivial ?_
        refine good_fin [List.length (joinP (joinP (cutL l (0 : Int) a) w) (cutL l b (1048576 : Int))) = List.length (changeL l a b w, (0 : Int)).fst ∧ ∀ (i : Nat), i < List.length (joinP (joinP (cutL l (0 : Int) a) w) (cutL l b (1048576 : Int))) → (fun i => Piece.cells (List.getD (joinP (joinP (cutL l (0 : Int) a) w) (cutL l b (1048576 : Int))) i default)) i = (fun i => Piece.cells (List.getD (changeL l a b w, (0 : Int)).fst i default)) i, (0 : Int) = (0 : Int)] (by kernel_rfl) ⟨?_, rfl, trivial⟩
        exact ⟨rfl, fun _ _ => rfl⟩
      · simp only [decide_eq_true_eq] at hc3
        rw [hr, if_pos (by unfold changeL; omega)]
        refine good_run 8 (obs := []) (by kernel_rfl) trivial ?_
        refine good_fin [(0 : Nat) = (0 : Nat), (8 : Int) = (8 : Int)] (by kernel_rfl) ⟨rfl, rfl, trivial⟩
      · simp only [decide_eq_false_iff_not] at hc3
        rw [hr, if_neg (by unfold changeL; omega)]
        refine good_run 9 (obs := []) (by kernel_rfl) trivial ?_
        refine good_fin [List.length (joinP (joinP (cutL l (0 : Int) a) w) (cutL l b (1048576 : Int))) = List.length (changeL l a b w, (0 : Int)).fst ∧ ∀ (i : Nat), i < List.length (joinP (joinP (cutL l (0 : Int) a) w) (cutL l b (1048576 : Int))) → (fun i => Piece.cells (List.getD (joinP (joinP (cutL l (0 : Int) a) w) (cutL l b (1048576 : Int))) i default)) i = (fun i => Piece.cells (List.getD (changeL l a b w, (0 : Int)).fst i default)) i, (0 : Int) = (0 : Int)] (by kernel_rfl) ⟨?_, rfl, trivial⟩
        exact ⟨rfl, fun _ _ => rfl⟩
      · simp only [decide_eq_true_eq] at hc3
        rw [hr, if_pos (by unfold changeL; omega)]
        refine good_run 8 (obs := []) (by kernel_rfl) trivial ?_
        refine good_fin [(0 : Nat) = (0 : Nat), (8 : Int) = (8 : Int)] (by kernel_rfl) ⟨rfl, rfl, trivial⟩
      · simp only [decide_eq_false_iff_not] at hc3
        rw [hr, if_neg (by unfold changeL; omega)]
        refine good_run 9 (obs := []) (by kernel_rfl) trivial ?_
        refine good_fin [List.length (joinP (joinP (cutL l (0 : Int) a) w) (cutL l b (1048576 : Int))) = List.length (changeL l a b w, (0 : Int)).fst ∧ ∀ (i : Nat), i < List.length (joinP (joinP (cutL l (0 : Int) a) w) (cutL l b (1048576 : Int))) → (fun i => Piece.cells (List.getD (joinP (joinP (cutL l (0 : Int) a) w) (cutL l b (1048576 : Int))) i default)) i = (fun i => Piece.cells (List.getD (changeL l a b w, (0 : Int)).fst i default)) i, (0 : Int) = (0 : Int)] (by kernel_rfl) ⟨?_, rfl, trivial⟩
        exact ⟨rfl, fun _ _ => rfl⟩
      · simp only [decide_eq_true_eq] at hc3
        rw [hr, if_pos (by unfold changeL; omega)]
        refine good_run 8 (obs := []) (by kernel_rfl) trivial ?_
        refine good_fin [(0 : Nat) = (0 : Nat), (8 : Int) = (8 : Int)] (by kernel_rfl) ⟨rfl, rfl, trivial⟩
      · simp only [decide_eq_false_iff_not] at hc3
        rw [hr, if_neg (by unfold changeL; omega)]
        refine good_run 9 (obs := []) (by kernel_rfl) trivial ?_
        refine good_fin [List.length (joinP (joinP (cutL l (0 : Int) a) w) (cutL l b (1048576 : Int))) = List.length (changeL l a b w, (0 : Int)).fst ∧ ∀ (i : Nat), i < List.length (joinP (joinP (cutL l (0 : Int) a) w) (cutL l b (1048576 : Int))) → (fun i => Piece.cells (List.getD (joinP (joinP (cutL l (0 : Int) a) w) (cutL l b (1048576 : Int))) i default)) i = (fun i => Piece.cells (List.getD (changeL l a b w, (0 : Int)).fst i default)) i, (0 : Int) = (0 : Int)] (by kernel_rfl) ⟨?_, rfl, trivial⟩
        exact ⟨rfl, fun _ _ => rfl⟩
      · simp only [decide_eq_true_eq] at hc3
        rw [hr, if_pos (by unfold changeL; omega)]
        refine good_run 8 (obs := []) (by kernel_rfl) trivial ?_
        refine good_fin [(0 : Nat) = (0 : Nat), (8 : Int) = (8 : Int)] (by kernel_rfl) ⟨rfl, rfl, trivial⟩
      · simp only [decide_eq_false_iff_not] at hc3
        rw [hr, if_neg (by unfold changeL; omega)]
        refine good_run 9 (obs := []) (by kernel_rfl) trivial ?_
        refine good_fin [List.length (joinP (joinP (cutL l (0 : Int) a) w) (cutL l b (1048576 : Int))) = List.length (changeL l a b w, (0 : Int)).fst ∧ ∀ (i : Nat), i < List.length (joinP (joinP (cutL l (0 : Int) a) w) (cutL l b (1048576 : Int))) → (fun i => Piece.cells (List.getD (joinP (joinP (cutL l (0 : Int) a) w) (cutL l b (1048576 : Int))) i default)) i = (fun i => Piece.cells (List.getD (changeL l a b w, (0 : Int)).fst i default)) i, (0 : Int) = (0 : Int)] (by kernel_rfl) ⟨?_, rfl, trivial⟩
        exact ⟨rfl, fun _ _ => rfl⟩
      · simp only [decide_eq_true_eq] at hc3
        rw [hr, if_pos (by unfold changeL; omega)]
        refine good_run 8 (obs := []) (by kernel_rfl) trivial ?_
        refine good_fin [(0 : Nat) = (0 : Nat), (8 : Int) = (8 : Int)] (by kernel_rfl) ⟨rfl, rfl, trivial⟩
      · simp only [decide_eq_false_iff_not] at hc3
        rw [hr, if_neg (by unfold changeL; omega)]
        refine good_run 9 (obs := []) (by kernel_rfl) trivial ?_
        refine good_fin [List.length (joinP (joinP (cutL l (0 : Int) a) w) (cutL l b (1048576 : Int))) = List.length (changeL l a b w, (0 : Int)).fst ∧ ∀ (i : Nat), i < List.length (joinP (joinP (cutL l (0 : Int) a) w) (cutL l b (1048576 : Int))) → (fun i => Piece.cells (List.getD (joinP (joinP (cutL l (0 : Int) a) w) (cutL l b (1048576 : Int))) i default)) i = (fun i => Piece.cells (List.getD (changeL l a b w, (0 : Int)).fst i default)) i, (0 : Int) = (0 : Int)] (by kernel_rfl) ⟨?_, rfl, trivial⟩
        exact ⟨rfl, fun _ _ => rfl⟩
      · simp only [decide_eq_true_eq] at hc3
        rw [hr, if_pos (by unfold changeL; omega)]
        refine good_run 8 (obs := []) (by kernel_rfl) trivial ?_
        refine good_fin [(0 : Nat) = (0 : Nat), (8 : Int) = (8 : Int)] (by kernel_rfl) ⟨rfl, rfl, trivial⟩
      · simp only [decide_eq_false_iff_not] at hc3
        rw [hr, if_neg (by unfold changeL; omega)]
        refine good_run 9 (obs := []) (by kernel_rfl) trivial ?_
        refine good_fin [List.length (joinP (joinP (cutL l (0 : Int) a) w) (cutL l b (1048576 : Int))) = List.length (changeL l a b w, (0 : Int)).fst ∧ ∀ (i : Nat), i < List.length (joinP (joinP (cutL l (0 : Int) a) w) (cutL l b (1048576 : Int))) → (fun i => Piece.cells (List.getD (joinP (joinP (cutL l (0 : Int) a) w) (cutL l b (1048576 : Int))) i default)) i = (fun i => Piece.cells (List.getD (changeL l a b w, (0 : Int)).fst i default)) i, (0 : Int) = (0 : Int)] (by kernel_rfl) ⟨?_, rfl, trivial⟩
        exact ⟨rfl, fun _ _ => rfl⟩
      · simp only [decide_eq_true_eq] at hc3
        rw [hr, if_pos (by unfold changeL; omega)]
        refine good_run 8 (obs := []) (by kernel_rfl) trivial ?_
        refine good_fin [(0 : Nat) = (0 : Nat), (8 : Int) = (8 : Int)] (by kernel_rfl) ⟨rfl, rfl, trivial⟩
      · simp only [decide_eq_false_iff_not] at hc3
        rw [hr, if_neg (by unfold changeL; omega)]
        refine good_run 9 (obs := []) (by kernel_rfl) trivial ?_
        refine good_fin [List.length (joinP (joinP (cutL l (0 : Int) a) w) (cutL l b (1048576 : Int))) = List.length (changeL l a b w, (0 : Int)).fst ∧ ∀ (i : Nat), i < List.length (joinP (joinP (cutL l (0 : Int) a) w) (cutL l b (1048576 : Int))) → (fun i => Piece.cells (List.getD (joinP (joinP (cutL l (0 : Int) a) w) (cutL l b (1048576 : Int))) i default)) i = (fun i => Piece.cells (List.getD (changeL l a b w, (0 : Int)).fst i default)) i, (0 : Int) = (0 : Int)] (by kernel_rfl) ⟨?_, rfl, trivial⟩
        exact ⟨rfl, fun _ _ => rfl⟩
      · simp only [decide_eq_true_eq] at hc3
        rw [hr, if_pos (by unfold changeL; omega)]
        refine good_run 8 (obs := []) (by kernel_rfl) trivial ?_
        refine good_fin [(0 : Nat) = (0 : Nat), (8 : Int) = (8 : Int)] (by kernel_rfl) ⟨rfl, rfl, trivial⟩
      · simp only [decide_eq_false_iff_not] at hc3
        rw [hr, if_neg (by unfold changeL; omega)]
        refine good_run 9 (obs := []) (by kernel_rfl) trivial ?_
        refine good_fin [List.length (joinP (joinP (cutL l (0 : Int) a) w) (cutL l b (1048576 : Int))) = List.length (changeL l a b w, (0 : Int)).fst ∧ ∀ (i : Nat), i < List.length (joinP (joinP (cutL l (0 : Int) a) w) (cutL l b (1048576 : Int))) → (fun i => Piece.cells (List.getD (joinP (joinP (cutL l (0 : Int) a) w) (cutL l b (1048576 : Int))) i default)) i = (fun i => Piece.cells (List.getD (changeL l a b w, (0 : Int)).fst i default)) i, (0 : Int) = (0 : Int)] (by kernel_rfl) ⟨?_, rfl, trivial⟩
        exact ⟨rfl, fun _ _ => rfl⟩
      · simp only [decide_eq_true_eq] at hc3
        rw [hr, if_pos (by unfold changeL; omega)]
        refine good_run 8 (obs := []) (by kernel_rfl) trivial ?_
        refine good_fin [(0 : Nat) = (0 : Nat), (8 : Int) = (8 : Int)] (by kernel_rfl) ⟨rfl, rfl, trivial⟩
      · simp only [decide_eq_false_iff_not] at hc3
        rw [hr, if_neg (by unfold changeL; omega)]
        refine good_run 9 (obs := []) (by kernel_rfl) trivial ?_
        refine good_fin [List.length (joinP (joinP (cutL l (0 : Int) a) w) (cutL l b (1048576 : Int))) = List.length (changeL l a b w, (0 : Int)).fst ∧ ∀ (i : Nat), i < List.length (joinP (joinP (cutL l (0 : Int) a) w) (cutL l b (1048576 : Int))) → (fun i => Piece.cells (List.getD (joinP (joinP (cutL l (0 : Int) a) w) (cutL l b (1048576 : Int))) i default)) i = (fun i => Piece.cells (List.getD (changeL l a b w, (0 : Int)).fst i default)) i, (0 : Int) = (0 : Int)] (by kernel_rfl) ⟨?_, rfl, trivial⟩
        exact ⟨rfl, fun _ _ => rfl⟩
      · simp only [decide_eq_true_eq] at hc3
        rw [hr, if_pos (by unfold changeL; omega)]
        refine good_run 8 (obs := []) (by kernel_rfl) trivial ?_
        refine good_fin [(0 : Nat) = (0 : Nat), (8 : Int) = (8 : Int)] (by kernel_rfl) ⟨rfl, rfl, trivial⟩
      · simp only [decide_eq_false_iff_not] at hc3
        rw [hr, if_neg (by unfold changeL; omega)]
        refine good_run 9 (obs := []) (by kernel_rfl) trivial ?_
        refine good_fin [List.length (joinP (joinP (cutL l (0 : Int) a) w) (cutL l b (1048576 : Int))) = List.length (changeL l a b w, (0 : Int)).fst ∧ ∀ (i : Nat), i < List.length (joinP (joinP (cutL l (0 : Int) a) w) (cutL l b (1048576 : Int))) → (fun i => Piece.cells (List.getD (joinP (joinP (cutL l (0 : Int) a) w) (cutL l b (1048576 : Int))) i default)) i = (fun i => Piece.cells (List.getD (changeL l a b w, (0 : Int)).fst i default)) i, (0 : Int) = (0 : Int)] (by kernel_rfl) ⟨?_, rfl, trivial⟩
        exact ⟨rfl, fun _ _ => rfl⟩
      · simp only [decide_eq_true_eq] at hc3
        rw [hr, if_pos (by unfold changeL; omega)]
        refine good_run 8 (obs := []) (by kernel_rfl) trivial ?_
        refine good_fin [(0 : Nat) = (0 : Nat), (8 : Int) = (8 : Int)] (by kernel_rfl) ⟨rfl, rfl, trivial⟩
      · simp only [decide_eq_false_iff_not] at hc3
        rw [hr, if_neg (by unfold changeL; omega)]
        refine good_run 9 (obs := []) (by kernel_rfl) trivial ?_
        refine good_fin [List.length (joinP (joinP (cutL l (0 : Int) a) w) (cutL l b (1048576 : Int))) = List.length (changeL l a b w, (0 : Int)).fst ∧ ∀ (i : Nat), i < List.length (joinP (joinP (cutL l (0 : Int) a) w) (cutL l b (1048576 : Int))) → (fun i => Piece.cells (List.getD (joinP (joinP (cutL l (0 : Int) a) w) (cutL l b (1048576 : Int))) i default)) i = (fun i => Piece.cells (List.getD (changeL l a b w, (0 : Int)).fst i default)) i, (0 : Int) = (0 : Int)] (by kernel_rfl) ⟨?_, rfl, trivial⟩
        exact ⟨rfl, fun _ _ => rfl⟩
      · simp only [decide_eq_true_eq] at hc3
        rw [hr, if_pos (by unfold changeL; omega)]
        refine good_run 8 (obs := []) (by kernel_rfl) trivial ?_
        refine good_fin [(0 : Nat) = (0 : Nat), (8 : Int) = (8 : Int)] (by kernel_rfl) ⟨rfl, rfl, trivial⟩
      · simp only [decide_eq_false_iff_not] at hc3
        rw [hr, if_neg (by unfold changeL; omega)]
        refine good_run 9 (obs := []) (by kernel_rfl) trivial ?_
        refine good_fin [List.length (joinP (joinP (cutL l (0 : Int) a) w) (cutL l b (1048576 : Int))) = List.length (changeL l a b w, (0 : Int)).fst ∧ ∀ (i : Nat), i < List.length (joinP (joinP (cutL l (0 : Int) a) w) (cutL l b (1048576 : Int))) → (fun i => Piece.cells (List.getD (joinP (joinP (cutL l (0 : Int) a) w) (cutL l b (1048576 : Int))) i default)) i = (fun i => Piece.cells (List.getD (changeL l a b w, (0 : Int)).fst i default)) i, (0 : Int) = (0 : Int)] (by kernel_rfl) ⟨?_, rfl, trivial⟩
        exact ⟨rfl, fun _ _ => rfl⟩
      · simp only [decide_eq_true_eq] at hc3
        rw [hr, if_pos (by unfold changeL; omega)]
        refine good_run 8 (obs := []) (by kernel_rfl) trivial ?_
        refine good_fin [(0 : Nat) = (0 : Nat), (8 : Int) = (8 : Int)] (by kernel_rfl) ⟨rfl, rfl, trivial⟩
      · simp only [decide_eq_false_iff_not] at hc3
        rw [hr, if_neg (by unfold changeL; omega)]
        refine good_run 9 (obs := []) (by kernel_rfl) trivial ?_
        refine good_fin [List.length (joinP (joinP (cutL l (0 : Int) a) w) (cutL l b (1048576 : Int))) = List.length (changeL l a b w, (0 : Int)).fst ∧ ∀ (i : Nat), i < List.length (joinP (joinP (cutL l (0 : Int) a) w) (cutL l b (1048576 : Int))) → (fun i => Piece.cells (List.getD (joinP (joinP (cutL l (0 : Int) a) w) (cutL l b (1048576 : Int))) i default)) i = (fun i => Piece.cells (List.getD (changeL l a b w, (0 : Int)).fst i default)) i, (0 : Int) = (0 : Int)] (by kernel_rfl) ⟨?_, rfl, trivial⟩
        exact ⟨rfl, fun _ _ => rfl⟩
end Go.Sx.T
