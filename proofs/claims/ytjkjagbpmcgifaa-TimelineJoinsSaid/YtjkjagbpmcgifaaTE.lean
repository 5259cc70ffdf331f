/- Contracts of functions of the program, each proved by running its code symbolically (TE). -/
import Derived.Test.YtjkjagbpmcgifaaTD
namespace Go.Sx.T
open Go Go.Proofs Go.Sx
set_option maxRecDepth 100000
set_option maxHeartbeats 4000000
set_option linter.unusedVariables false
set_option linter.unusedSimpArgs false
/-- The values of a timeline in which a span has another one. -/
def overF (l : List Piece) (a b : Int) (w : Option Int) (d : Int) : Option Int := if a ≤ d ∧ d < b then w else atF l d
def replaceR (l : List Piece) (a b : Int) (w : Option Int) : List Piece × Int :=
  if check l ≠ 0 then ([], check l) else if okSpan a b = false then ([], 2) else buildR (isort (keysOf (psOf [⟨a, b⟩] [l]))) (overF l a b w)
theorem one_span (a b : Int) : SVle (.lst 2 1 (cutRows 2 [.int .i64 a, .int .i64 b])) (spans [⟨a, b⟩]) :=
  svle_lst rfl fun i hi => by
    have : i = 0 := by omega
    subst this; exact SVles.refl _
theorem one_list (l : List Piece) : SVle (.lst 1 1 (cutRows 1 [pieces l])) (lists [l]) :=
  svle_lst rfl fun i hi => by
    have : i = 0 := by omega
    subst this; exact SVles.refl _
theorem cut_len (ss : List Span) (L : List (List Piece)) : (isort (keysOf (psOf ss L))).length ≤ 2 * (ss.length + L.flatten.length) := by
  have h := keysOf_len (psOf ss L) []
  have hp : (psOf ss L).length = ss.length + L.flatten.length := by unfold psOf; rw [List.length_append, List.length_map, List.length_map]
  rw [isort_length, ← hp]
  simpa [keysOf] using h
def setW (s : Bool) (v : Int) : Option Int := if s then some v else none
theorem setW_v (s : Bool) (v : Int) : optV (setW s v) = if s then v else 0 := by cases s <;> rfl
theorem s46 (l : List Piece) (a b v : Int) (s : Bool) (hs : s = false → v = 0) (d : Int) : Spec Try.prog 46 [.int .i64 d, .ref [.int .i64 a, .int .i64 b] 0, .ref [.int .i64 v] 0, .ref [.bool s] 0, .ref [pieces l] 0] (.tup [.int .i64 (optV (overF l a b (setW s v) d)), .bool (okV (overF l a b (setW s v) d))]) := by
  refine spec_of_good mixed Try.func46 F46_ok (by kernel_rfl) ?_
  refine good_run 21 (obs := []) (by kernel_rfl) trivial ?_
  refine good_cond (decide (a ≤ d) && decide (d < b)) (by kernel_rfl) (fun hc1 => ?_) (fun hc1 => ?_)
  · simp only [Bool.and_eq_true, decide_eq_true_eq] at hc1
    have : overF l a b (setW s v) d = setW s v := by rw [overF, if_pos hc1]
    rw [this]
    cases s with
    | true => refine good_run 10 (obs := []) (by kernel_rfl) trivial ?_
              refine good_fin [v = optV (setW true v), true = okV (setW true v)] (by kernel_rfl) ⟨(by rfl), (by rfl), trivial⟩
    | false =>
      obtain rfl := hs rfl
      refine good_run 10 (obs := []) (by kernel_rfl) trivial ?_
      refine good_fin [(0 : Int) = optV (setW false (0 : Int)), false = okV (setW false (0 : Int))] (by kernel_rfl) ⟨(by rfl), (by rfl), trivial⟩
  · simp only [Bool.and_eq_false_iff, decide_eq_false_iff_not] at hc1
    have : overF l a b (setW s v) d = atF l d := by rw [overF, if_neg (by omega)]
    rw [this]
    refine good_run 5 (obs := []) (by kernel_rfl) trivial ?_
    refine good_call (c := True) (by kernel_rfl) (fun _ => SVles.refl _) (fun _ => s17 (l) (d)) (by kernel_rfl) ?_
    refine good_run 7 (obs := []) (by kernel_rfl) trivial ?_
    refine good_fin [optV (atF l d) = optV (atF l d), okV (atF l d) = okV (atF l d)] (by kernel_rfl) ⟨rfl, rfl, trivial⟩
theorem s30 (l : List Piece) (a b v : Int) (s : Bool) (hs : s = false → v = 0) : Spec Try.prog 30 [pieces l, .agg [.int .i64 a, .int .i64 b], .int .i64 v, .bool s] (.tup [pieces (replaceR l a b (setW s v)).1, .int .i64 (replaceR l a b (setW s v)).2]) := by
  refine spec_of_good mixed Try.func30 F30_ok (by kernel_rfl) ?_
  refine good_run 14 (obs := []) (by kernel_rfl) trivial ?_
  refine good_call (c := True) (by kernel_rfl) (fun _ => SVles.refl _) (fun _ => s18 (l)) (by kernel_rfl) ?_
  refine good_run 9 (obs := []) (by kernel_rfl) trivial ?_
  refine good_cond (!decide (check l = (0 : Int))) (by kernel_rfl) (fun hc1 => ?_) (fun hc1 => ?_)
  · simp only [Bool.not_eq_true', decide_eq_false_iff_not] at hc1
    have : ∀ w, replaceR l a b w = ([], check l) := fun w => by rw [replaceR, if_pos hc1]
    rw [this]
    refine good_run 9 (obs := []) (by kernel_rfl) trivial ?_
    refine good_fin [(0 : Nat) = (0 : Nat), check l = check l] (by kernel_rfl) ⟨rfl, rfl, trivial⟩
  · simp only [Bool.not_eq_false', decide_eq_true_eq] at hc1
    have hl : l.length ≤ 1024 := by
      unfold check at hc1
      split at hc1
      · cases hc1
      · omega
    refine good_run 5 (obs := [(0 : Nat) + (2 : Nat) ≤ (2 : Nat)]) (by kernel_rfl) (by (first | omega | assumption | exact ⟨rfl, trivial⟩ | simp only [AllP, inK_iff, roomOK_iff, decide_eq_true_eq, Bool.and_eq_true, Bool.or_eq_true, Bool.not_eq_true', decide_eq_false_iff_not, and_true, true_and]; (first | omega | (and_intros <;> intros <;> (try and_intros) <;> first | omega | assumption | exact trivial)))) ?_
    refine good_call (c := True) (by kernel_rfl) (fun _ => SVles.refl _) (fun _ => s34 (a) (b)) (by kernel_rfl) ?_
    refine good_run 3 (obs := []) (by kernel_rfl) trivial ?_
    refine good_cond (!okSpan a b) (by kernel_rfl) (fun hc2 => ?_) (fun hc2 => ?_)
    · simp only [Bool.not_eq_true'] at hc2
      have : ∀ w, replaceR l a b w = ([], 2) := fun w => by rw [replaceR, if_neg (fun h => h hc1), if_pos hc2]
      rw [this]
      refine good_run 8 (obs := []) (by kernel_rfl) trivial ?_
      refine good_fin [(0 : Nat) = (0 : Nat), (2 : Int) = (2 : Int)] (by kernel_rfl) ⟨rfl, rfl, trivial⟩
    · simp only [Bool.not_eq_false'] at hc2
      have : ∀ w, replaceR l a b w = buildR (isort (keysOf (psOf [⟨a, b⟩] [l]))) (overF l a b w) := fun w => by rw [replaceR, if_neg (fun h => h hc1), if_neg (by rw [hc2]; decide)]
      rw [this]
      have hcl := cut_len [⟨a, b⟩] [l]
      simp only [List.length_singleton, List.flatten_cons, List.flatten_nil, List.append_nil] at hcl
      refine good_run 7 (obs := [(0 : Nat) + (2 : Nat) ≤ (2 : Nat)]) (by kernel_rfl) (by (first | omega | assumption | exact ⟨rfl, trivial⟩ | simp only [AllP, inK_iff, roomOK_iff, decide_eq_true_eq, Bool.and_eq_true, Bool.or_eq_true, Bool.not_eq_true', decide_eq_false_iff_not, and_true, true_and]; (first | omega | (and_intros <;> intros <;> (try and_intros) <;> first | omega | assumption | exact trivial)))) ?_
      refine good_own (args := [SV.lst (2 : Nat) (1 : Nat) (cutRows (2 : Nat) [SV.int IntKind.i64 a, SV.int IntKind.i64 b]), SV.lst (1 : Nat) (1 : Nat) (cutRows (1 : Nat) [SV.lst (3 : Nat) (List.length l) fun i => Piece.cells (List.getD l i default)])]) (c := True) (by kernel_rfl) (by kernel_rfl) (SVles.cons (one_span a b) (SVles.cons (one_list l) (SVles.refl []))) (s41 [⟨a, b⟩] [l] (by simp) (by simp) (fun l' hl' => by simp at hl'; subst hl'; omega)) ?_
      refine good_run 1 (obs := []) (by kernel_rfl) trivial ?_
      refine good_call (c := True) (by kernel_rfl) (fun _ => SVles.refl _) (fun _ => s40 (isort (keysOf (psOf [⟨a, b⟩] [l]))) 46 _ (overF l a b (setW s v)) (by omega) (fun d => s46 l a b v s hs d)) (by kernel_rfl) ?_
      refine good_run 7 (obs := []) (by kernel_rfl) trivial ?_
      refine good_fin [List.length (buildR (isort (keysOf (psOf [{ From := a, Until := b }] [l]))) (overF l a b (setW s v))).fst = List.length (buildR (isort (keysOf (psOf [{ From := a, Until := b }] [l]))) (overF l a b (setW s v))).fst ∧ ∀ (i : Nat), i < List.length (buildR (isort (keysOf (psOf [{ From := a, Until := b }] [l]))) (overF l a b (setW s v))).fst → (fun i => Piece.cells (List.getD (buildR (isort (keysOf (psOf [{ From := a, Until := b }] [l]))) (overF l a b (setW s v))).fst i default)) i = (fun i => Piece.cells (List.getD (buildR (isort (keysOf (psOf [{ From := a, Until := b }] [l]))) (overF l a b (setW s v))).fst i default)) i, (buildR (isort (keysOf (psOf [{ From := a, Until := b }] [l]))) (overF l a b (setW s v))).snd = (buildR (isort (keysOf (psOf [{ From := a, Until := b }] [l]))) (overF l a b (setW s v))).snd] (by kernel_rfl) ⟨⟨rfl, fun _ _ => rfl⟩, rfl, trivial⟩
theorem s12 (l : List Piece) (a b v : Int) : Spec Try.prog 12 [pieces l, .agg [.int .i64 a, .int .i64 b], .int .i64 v] (.tup [pieces (replaceR l a b (some v)).1, .int .i64 (replaceR l a b (some v)).2]) := by
  refine spec_of_good mixed Try.func12 F12_ok (by kernel_rfl) ?_
  refine good_run 12 (obs := [(0 : Nat) + (2 : Nat) ≤ (2 : Nat)]) (by kernel_rfl) (by (first | omega | assumption | exact ⟨rfl, trivial⟩ | simp only [AllP, inK_iff, roomOK_iff, decide_eq_true_eq, Bool.and_eq_true, Bool.or_eq_true, Bool.not_eq_true', decide_eq_false_iff_not, and_true, true_and]; (first | omega | (and_intros <;> intros <;> (try and_intros) <;> first | omega | assumption | exact trivial)))) ?_
  refine good_call (c := True) (by kernel_rfl) (fun _ => SVles.refl _) (fun _ => s30 (l) (a) (b) (v) (true) ?_) (by kernel_rfl) ?_
  · exact fun h => by cases h
  refine good_run 7 (obs := []) (by kernel_rfl) trivial ?_
  refine good_fin [List.length (replaceR l a b (setW true v)).fst = List.length (replaceR l a b (some v)).fst ∧ ∀ (i : Nat), i < List.length (replaceR l a b (setW true v)).fst → (fun i => Piece.cells (List.getD (replaceR l a b (setW true v)).fst i default)) i = (fun i => Piece.cells (List.getD (replaceR l a b (some v)).fst i default)) i, (replaceR l a b (setW true v)).snd = (replaceR l a b (some v)).snd] (by kernel_rfl) ⟨?_, (by rfl), trivial⟩
  exact ⟨rfl, fun _ _ => rfl⟩
theorem s14 (l : List Piece) (a b : Int) : Spec Try.prog 14 [pieces l, .agg [.int .i64 a, .int .i64 b]] (.tup [pieces (replaceR l a b none).1, .int .i64 (replaceR l a b none).2]) := by
  refine spec_of_good mixed Try.func14 F14_ok (by kernel_rfl) ?_
  refine good_run 11 (obs := [(0 : Nat) + (2 : Nat) ≤ (2 : Nat)]) (by kernel_rfl) (by (first | omega | assumption | exact ⟨rfl, trivial⟩ | simp only [AllP, inK_iff, roomOK_iff, decide_eq_true_eq, Bool.and_eq_true, Bool.or_eq_true, Bool.not_eq_true', decide_eq_false_iff_not, and_true, true_and]; (first | omega | (and_intros <;> intros <;> (try and_intros) <;> first | omega | assumption | exact trivial)))) ?_
  refine good_call (c := True) (by kernel_rfl) (fun _ => SVles.refl _) (fun _ => s30 (l) (a) (b) ((0 : Int)) (false) (by (first | omega | assumption | exact ⟨rfl, trivial⟩ | simp only [AllP, inK_iff, roomOK_iff, decide_eq_true_eq, Bool.and_eq_true, Bool.or_eq_true, Bool.not_eq_true', decide_eq_false_iff_not, and_true, true_and]; (first | omega | (and_intros <;> intros <;> (try and_intros) <;> first | omega | assumption | exact trivial))))) (by kernel_rfl) ?_
  refine good_run 7 (obs := []) (by kernel_rfl) trivial ?_
  refine good_fin [List.length (replaceR l a b (setW false (0 : Int))).fst = List.length (replaceR l a b none).fst ∧ ∀ (i : Nat), i < List.length (replaceR l a b (setW false (0 : Int))).fst → (fun i => Piece.cells (List.getD (replaceR l a b (setW false (0 : Int))).fst i default)) i = (fun i => Piece.cells (List.getD (replaceR l a b none).fst i default)) i, (replaceR l a b (setW false (0 : Int))).snd = (replaceR l a b none).snd] (by kernel_rfl) ⟨?_, (by rfl), trivial⟩
  exact ⟨rfl, fun _ _ => rfl⟩
/-- How many days have a value. -/
def daysF (v : Int) : List Piece → Int
  | [] => 0
  | p :: r => (if p.Value = v then p.Until - p.From else 0) + daysF v r
def firstP (l : List Piece) (from' v : Int) : Option Int := (l.find? fun p => decide (p.Value = v) && decide (from' < p.Until)).map fun p => max from' p.From
theorem errP_zero (l : List Piece) : ∀ (n k : Nat), errP l n k = 0 ↔ ∀ j, j < n → faultP (prevOf l (k + j)) (l.getD (k + j) default) = 0
  | 0, k => by simp [errP]
  | n + 1, k => by
    rw [errP]
    split
    · rename_i h
      constructor
      · intro h1; exact absurd h1 h
      · intro h1; exact h1 0 (by omega)
    · rename_i h
      have h0 : faultP (prevOf l k) (l.getD k default) = 0 := Classical.byContradiction h
      rw [errP_zero l n (k + 1)]
      constructor
      · intro h1 j hj
        cases j with
        | zero => exact h0
        | succ j => have := h1 j (by omega); rwa [show k + 1 + j = k + (j + 1) by omega] at this
      · intro h1 j hj
        have := h1 (j + 1) (by omega); rwa [show k + (j + 1) = k + 1 + j by omega] at this
theorem check_zero {l : List Piece} : check l = 0 ↔ l.length ≤ 1024 ∧ ∀ j, j < l.length → faultP (prevOf l j) (l.getD j default) = 0 := by
  unfold check
  split
  · constructor
    · intro h; cases h
    · intro h; omega
  · rw [errP_zero]
    simp only [Nat.zero_add]
    constructor
    · intro h; exact ⟨by omega, h⟩
    · intro h; exact h.2
theorem fault_ok {q : Option Piece} {p : Piece} (h : faultP q p = 0) : okSpan p.From p.Until = true := by
  unfold faultP at h
  split at h
  · cases h
  · rename_i h1; simpa using h1
theorem check_ok {l : List Piece} (h : check l = 0) {k : Nat} (hk : k < l.length) : 0 ≤ (l.getD k default).From ∧ (l.getD k default).From < (l.getD k default).Until ∧ (l.getD k default).Until ≤ 1048576 := by
  have := fault_ok ((check_zero.1 h).2 k hk)
  simpa [okSpan, and_assoc] using this
theorem daysF_snoc (v : Int) : ∀ (l : List Piece) (p : Piece), daysF v (l ++ [p]) = daysF v l + (if p.Value = v then p.Until - p.From else 0)
  | [], p => by simp [daysF]
  | q :: r, p => by simp only [List.cons_append, daysF, daysF_snoc v r p]; omega
theorem daysF_bound {l : List Piece} (h : check l = 0) (v : Int) : ∀ k, k ≤ l.length → 0 ≤ daysF v (l.take k) ∧ daysF v (l.take k) ≤ 1048576 * k
  | 0, _ => by simp [daysF]
  | k + 1, hk => by
    have h1 := daysF_bound h v k (by omega)
    have h2 := check_ok h (k := k) (by omega)
    rw [take_snoc l default k (by omega), daysF_snoc]
    split <;> omega
theorem s37 (p : Piece) (v from' : Int) : Spec Try.prog 37 [p.sv, .ref [.int .i64 v] 0, .ref [.int .i64 from'] 0] (.bool (decide (p.Value = v) && decide (from' < p.Until))) := by
  refine spec_of_good mixed Try.func37 F37_ok (by kernel_rfl) ?_
  refine good_run 23 (obs := []) (by kernel_rfl) trivial ?_
  refine good_fin [(decide (p.Value = v) && decide (from' < p.Until)) = (decide (p.Value = v) && decide (from' < p.Until))] (by kernel_rfl) ⟨rfl, trivial⟩
def firstR (l : List Piece) (from' v : Int) : Int := if check l = 0 then optV (firstP l from' v) else 0
def daysR (l : List Piece) (v : Int) : Int := if check l = 0 then daysF v l else 0
theorem s21 (l : List Piece) (from' v : Int) : Spec Try.prog 21 [pieces l, .int .i64 from', .int .i64 v] (.tup [.int .i64 (firstR l from' v), .bool (decide (check l = 0) && okV (firstP l from' v))]) := by
  refine spec_of_good mixed Try.func21 F21_ok (by kernel_rfl) ?_
  refine good_run 12 (obs := []) (by kernel_rfl) trivial ?_
  refine good_call (c := True) (by kernel_rfl) (fun _ => SVles.refl _) (fun _ => s18 (l)) (by kernel_rfl) ?_
  refine good_run 3 (obs := []) (by kernel_rfl) trivial ?_
  refine good_cond (!decide (check l = (0 : Int))) (by kernel_rfl) (fun hc1 => ?_) (fun hc1 => ?_)
  · simp only [Bool.not_eq_true', decide_eq_false_iff_not] at hc1
    have h1 : (decide (check l = 0) && okV (firstP l from' v)) = false := by rw [decide_eq_false hc1]; rfl
    have h2 : firstR l from' v = 0 := if_neg hc1
    rw [h1, h2]
    refine good_run 8 (obs := []) (by kernel_rfl) trivial ?_
    refine good_fin [(0 : Int) = (0 : Int), false = false] (by kernel_rfl) ⟨rfl, rfl, trivial⟩
  · simp only [Bool.not_eq_false', decide_eq_true_eq] at hc1
    have h1 : (decide (check l = 0) && okV (firstP l from' v)) = okV (firstP l from' v) := by rw [decide_eq_true hc1]; rfl
    have h2 : firstR l from' v = optV (firstP l from' v) := if_pos hc1
    rw [h1, h2]
    refine good_run 5 (obs := []) (by kernel_rfl) trivial ?_
    refine good_call (c := True) (by kernel_rfl) (fun _ => SVles.refl _) (fun _ => s32 l 37 _ (fun p => decide (p.Value = v) && decide (from' < p.Until)) (fun p => s37 p v from')) (by kernel_rfl) ?_
    rcases findI_cases l (fun p => decide (p.Value = v) && decide (from' < p.Until)) with ⟨e, _, h, _⟩ | ⟨k, hk, e, _, h, _, _⟩
    · have hf : firstP l from' v = none := by rw [firstP, h]; rfl
      rw [e, hf]
      refine good_run 10 (obs := []) (by kernel_rfl) trivial ?_
      refine good_cond true (by kernel_rfl) (fun _ => ?_) (fun h => nomatch h)
      refine good_run 8 (obs := []) (by kernel_rfl) trivial ?_
      refine good_fin [(0 : Int) = optV none, false = okV none] (by kernel_rfl) ⟨(by rfl), (by rfl), trivial⟩
    · have hf : firstP l from' v = some (max from' (l.getD k default).From) := by rw [firstP, h]; rfl
      rw [e, hf]
      refine good_run 10 (obs := []) (by kernel_rfl) trivial ?_
      refine good_cond (decide ((↑k : Int) < (0 : Int))) (by kernel_rfl) (fun hc2 => ?_) (fun hc2 => ?_)
      · exfalso; simp only [decide_eq_true_eq] at hc2; omega
      · refine good_run 16 (obs := [True → (3 : Nat) = (3 : Nat) ∧ (0 : Int) ≤ (↑k : Int) ∧ (↑k : Int) < (↑(List.length l) : Int)]) (by kernel_rfl) (by (first | omega | assumption | exact ⟨rfl, trivial⟩ | simp only [AllP, inK_iff, roomOK_iff, decide_eq_true_eq, Bool.and_eq_true, Bool.or_eq_true, Bool.not_eq_true', decide_eq_false_iff_not, and_true, true_and]; (first | omega | (and_intros <;> intros <;> (try and_intros) <;> first | omega | assumption | exact trivial)))) ?_
        refine good_fin [max from' (List.getD l k default).From = optV (some (max from' (List.getD l k default).From)), true = okV (some (max from' (List.getD l k default).From))] (by kernel_rfl) ⟨(by rfl), (by rfl), trivial⟩
theorem s19 (l : List Piece) (v : Int) : Spec Try.prog 19 [pieces l, .int .i64 v] (.int .i64 (daysR l v)) := by
  refine spec_of_good mixed Try.func19 F19_ok (by kernel_rfl) ?_
  refine good_run 9 (obs := []) (by kernel_rfl) trivial ?_
  refine good_call (c := True) (by kernel_rfl) (fun _ => SVles.refl _) (fun _ => s18 (l)) (by kernel_rfl) ?_
  refine good_run 3 (obs := []) (by kernel_rfl) trivial ?_
  refine good_cond (!decide (check l = (0 : Int))) (by kernel_rfl) (fun hc1 => ?_) (fun hc1 => ?_)
  · simp only [Bool.not_eq_true', decide_eq_false_iff_not] at hc1
    have : daysR l v = 0 := if_neg hc1
    rw [this]
    refine good_run 7 (obs := []) (by kernel_rfl) trivial ?_
    refine good_fin [(0 : Int) = (0 : Int)] (by kernel_rfl) ⟨rfl, trivial⟩
  · simp only [Bool.not_eq_false', decide_eq_true_eq] at hc1
    have : daysR l v = daysF v l := if_pos hc1
    rw [this]
    have hlen := (check_zero.1 hc1).1
    refine good_run 10 (obs := []) (by kernel_rfl) trivial ?_
    refine good_own (c := True) (by kernel_rfl) (by kernel_rfl) (SVles.refl _) (s35 (List.length l) (fun i => Piece.cells (List.getD l i default)) (by (first | omega | assumption | exact ⟨rfl, trivial⟩ | simp only [AllP, inK_iff, roomOK_iff, decide_eq_true_eq, Bool.and_eq_true, Bool.or_eq_true, Bool.not_eq_true', decide_eq_false_iff_not, and_true, true_and]; (first | omega | (and_intros <;> intros <;> (try and_intros) <;> first | omega | assumption | exact trivial))))) ?_
    refine good_run 5 (obs := []) (by kernel_rfl) trivial ?_
    refine good_loopJ (fun k : Nat => ⟨[(14, .sv (.int .i64 (k))), (5, .sv (.int .i64 (daysF v (l.take k)))), (13, LV.sv (SV.int IntKind.i64 (↑(List.length l) : Int))), (12, LV.own (0 : Nat)), (1, LV.sv (SV.int IntKind.i64 v))], [Blk.row (47 : Nat) (3 : Nat) (List.length l) true fun i => Piece.cells (List.getD l i default)]⟩) (fun k => k ≤ l.length) (fun k => l.length - k) (0) [List.length l = List.length l ∧ ∀ (i : Nat), i < List.length l → (fun i => Piece.cells (List.getD l i default)) i = (fun i => Piece.cells (List.getD l i default)) i, (0 : Int) = (0 : Int), (0 : Int) = daysF v [], (↑(List.length l) : Int) = (↑(List.length l) : Int), v = v] (by kernel_rfl) (by kernel_rfl) ⟨⟨rfl, fun _ _ => rfl⟩, rfl, (by rfl), rfl, rfl, trivial⟩ (by omega) ?_
    intro k hk
    have hb := daysF_bound hc1 v k hk
    refine good_run 6 (obs := []) (by kernel_rfl) trivial ?_
    refine good_cond (decide ((↑k : Int) < (↑(List.length l) : Int))) (by kernel_rfl) (fun hc2 => ?_) (fun hc2 => ?_)
    · have hlt : k < l.length := by simp only [decide_eq_true_eq] at hc2; omega
      have hck := check_ok hc1 hlt
      have hs := take_snoc l default k hlt
      refine good_run 19 (obs := [(3 : Nat) = (3 : Nat) ∧ (0 : Int) ≤ (↑k : Int) ∧ (↑k : Int) < (↑(List.length l) : Int), (0 : Nat) + (3 : Nat) ≤ (3 : Nat), (3 : Nat) = (3 : Nat) ∧ (0 : Nat) + (3 : Nat) ≤ (3 : Nat)]) (by kernel_rfl) (by (first | omega | assumption | exact ⟨rfl, trivial⟩ | simp only [AllP, inK_iff, roomOK_iff, decide_eq_true_eq, Bool.and_eq_true, Bool.or_eq_true, Bool.not_eq_true', decide_eq_false_iff_not, and_true, true_and]; (first | omega | (and_intros <;> intros <;> (try and_intros) <;> first | omega | assumption | exact trivial)))) ?_
      refine good_cond (decide ((List.getD l k default).Value = v)) (by kernel_rfl) (fun hc3 => ?_) (fun hc3 => ?_)
      · simp only [decide_eq_true_eq] at hc3
        refine good_run 19 (obs := [InK IntKind.i64 ((List.getD l k default).Until - (List.getD l k default).From), InK IntKind.i64 (daysF v (List.take k l) + ((List.getD l k default).Until - (List.getD l k default).From)), InK IntKind.i64 ((↑k : Int) + (1 : Int))]) (by kernel_rfl) (by (first | omega | assumption | exact ⟨rfl, trivial⟩ | simp only [AllP, inK_iff, roomOK_iff, decide_eq_true_eq, Bool.and_eq_true, Bool.or_eq_true, Bool.not_eq_true', decide_eq_false_iff_not, and_true, true_and]; (first | omega | (and_intros <;> intros <;> (try and_intros) <;> first | omega | assumption | exact trivial)))) ?_
        refine good_backJ (k + 1) [List.length l = List.length l ∧ ∀ (i : Nat), i < List.length l → (fun i => Piece.cells (List.getD l i default)) i = (fun i => Piece.cells (List.getD l i default)) i, (↑k : Int) + (1 : Int) = (↑(k + (1 : Nat)) : Int), daysF v (List.take k l) + ((List.getD l k default).Until - (List.getD l k default).From) = daysF v (List.take (k + (1 : Nat)) l), (↑(List.length l) : Int) = (↑(List.length l) : Int), v = v] (by kernel_rfl) (by kernel_rfl) ⟨⟨rfl, fun _ _ => rfl⟩, (by omega), ?_, rfl, rfl, trivial⟩ (by omega) (by show _ < _; omega)
        rw [hs, daysF_snoc, if_pos hc3]
      · simp only [decide_eq_false_iff_not] at hc3
        refine good_run 7 (obs := [InK IntKind.i64 ((↑k : Int) + (1 : Int))]) (by kernel_rfl) (by (first | omega | assumption | exact ⟨rfl, trivial⟩ | simp only [AllP, inK_iff, roomOK_iff, decide_eq_true_eq, Bool.and_eq_true, Bool.or_eq_true, Bool.not_eq_true', decide_eq_false_iff_not, and_true, true_and]; (first | omega | (and_intros <;> intros <;> (try and_intros) <;> first | omega | assumption | exact trivial)))) ?_
        refine good_backJ (k + 1) [List.length l = List.length l ∧ ∀ (i : Nat), i < List.length l → (fun i => Piece.cells (List.getD l i default)) i = (fun i => Piece.cells (List.getD l i default)) i, (↑k : Int) + (1 : Int) = (↑(k + (1 : Nat)) : Int), daysF v (List.take k l) = daysF v (List.take (k + (1 : Nat)) l), (↑(List.length l) : Int) = (↑(List.length l) : Int), v = v] (by kernel_rfl) (by kernel_rfl) ⟨⟨rfl, fun _ _ => rfl⟩, (by omega), ?_, rfl, rfl, trivial⟩ (by omega) (by show _ < _; omega)
        rw [hs, daysF_snoc, if_neg hc3]; omega
    · have hge : k = l.length := by simp only [decide_eq_false_iff_not] at hc2; omega
      subst hge
      rw [List.take_length]
      refine good_run 2 (obs := []) (by kernel_rfl) trivial ?_
      refine good_leaveJ (by kernel_rfl) ?_
      refine good_run 8 (obs := []) (by kernel_rfl) trivial ?_
      refine good_fin [daysF v l = daysF v l] (by kernel_rfl) ⟨rfl, trivial⟩
theorem s24 (l : List Piece) (v : Int) : Spec Try.prog 24 [pieces l, .int .i64 v] (.int .i64 (daysR l v)) := by
  refine spec_of_good mixed Try.func24 F24_ok (by kernel_rfl) ?_
  refine good_run 9 (obs := []) (by kernel_rfl) trivial ?_
  refine good_call (c := True) (by kernel_rfl) (fun _ => SVles.refl _) (fun _ => s23 (l)) (by kernel_rfl) ?_
  refine good_run 3 (obs := []) (by kernel_rfl) trivial ?_
  refine good_cond (!decide (check l = (0 : Int))) (by kernel_rfl) (fun hc1 => ?_) (fun hc1 => ?_)
  · simp only [Bool.not_eq_true', decide_eq_false_iff_not] at hc1
    have : daysR l v = 0 := if_neg hc1
    rw [this]
    refine good_run 7 (obs := []) (by kernel_rfl) trivial ?_
    refine good_fin [(0 : Int) = (0 : Int)] (by kernel_rfl) ⟨rfl, trivial⟩
  · simp only [Bool.not_eq_false', decide_eq_true_eq] at hc1
    have : daysR l v = daysF v l := if_pos hc1
    rw [this]
    have hlen := (check_zero.1 hc1).1
    refine good_run 13 (obs := []) (by kernel_rfl) trivial ?_
    refine good_loopJ (fun k : Nat => ⟨[(6, .sv (.int .i64 (k))), (5, .sv (.int .i64 (daysF v (l.take k)))), (0, LV.sv (SV.lst (3 : Nat) (List.length l) fun i => Piece.cells (List.getD l i default))), (1, LV.sv (SV.int IntKind.i64 v))], []⟩) (fun k => k ≤ l.length) (fun k => l.length - k) (0) [(0 : Int) = (0 : Int), (0 : Int) = daysF v [], List.length l = List.length l ∧ ∀ (i : Nat), i < List.length l → (fun i => Piece.cells (List.getD l i default)) i = (fun i => Piece.cells (List.getD l i default)) i, v = v] (by kernel_rfl) (by kernel_rfl) ⟨rfl, (by rfl), ⟨rfl, fun _ _ => rfl⟩, rfl, trivial⟩ (by omega) ?_
    intro k hk
    have hb := daysF_bound hc1 v k hk
    refine good_run 9 (obs := []) (by kernel_rfl) trivial ?_
    refine good_cond (decide ((↑k : Int) < (↑(List.length l) : Int))) (by kernel_rfl) (fun hc2 => ?_) (fun hc2 => ?_)
    · have hlt : k < l.length := by simp only [decide_eq_true_eq] at hc2; omega
      have hck := check_ok hc1 hlt
      have hs := take_snoc l default k hlt
      refine good_run 14 (obs := [(3 : Nat) = (3 : Nat) ∧ (0 : Int) ≤ (↑k : Int) ∧ (↑k : Int) < (↑(List.length l) : Int)]) (by kernel_rfl) (by (first | omega | assumption | exact ⟨rfl, trivial⟩ | simp only [AllP, inK_iff, roomOK_iff, decide_eq_true_eq, Bool.and_eq_true, Bool.or_eq_true, Bool.not_eq_true', decide_eq_false_iff_not, and_true, true_and]; (first | omega | (and_intros <;> intros <;> (try and_intros) <;> first | omega | assumption | exact trivial)))) ?_
      refine good_cond (decide ((List.getD l k default).Value = v)) (by kernel_rfl) (fun hc3 => ?_) (fun hc3 => ?_)
      · simp only [decide_eq_true_eq] at hc3
        refine good_run 26 (obs := [True → (3 : Nat) = (3 : Nat) ∧ (0 : Int) ≤ (↑k : Int) ∧ (↑k : Int) < (↑(List.length l) : Int), True → InK IntKind.i64 (daysF v (List.take k l) + (List.getD l k default).Until), True → (3 : Nat) = (3 : Nat) ∧ (0 : Int) ≤ (↑k : Int) ∧ (↑k : Int) < (↑(List.length l) : Int), True → InK IntKind.i64 (daysF v (List.take k l) + (List.getD l k default).Until - (List.getD l k default).From), InK IntKind.i64 ((↑k : Int) + (1 : Int))]) (by kernel_rfl) (by (first | omega | assumption | exact ⟨rfl, trivial⟩ | simp only [AllP, inK_iff, roomOK_iff, decide_eq_true_eq, Bool.and_eq_true, Bool.or_eq_true, Bool.not_eq_true', decide_eq_false_iff_not, and_true, true_and]; (first | omega | (and_intros <;> intros <;> (try and_intros) <;> first | omega | assumption | exact trivial)))) ?_
        refine good_backJ (k + 1) [(↑k : Int) + (1 : Int) = (↑(k + (1 : Nat)) : Int), daysF v (List.take k l) + (List.getD l k default).Until - (List.getD l k default).From = daysF v (List.take (k + (1 : Nat)) l), List.length l = List.length l ∧ ∀ (i : Nat), i < List.length l → (fun i => Piece.cells (List.getD l i default)) i = (fun i => Piece.cells (List.getD l i default)) i, v = v] (by kernel_rfl) (by kernel_rfl) ⟨(by omega), ?_, ⟨rfl, fun _ _ => rfl⟩, rfl, trivial⟩ (by omega) (by show _ < _; omega)
        rw [hs, daysF_snoc, if_pos hc3]; omega
      · simp only [decide_eq_false_iff_not] at hc3
        refine good_run 8 (obs := [InK IntKind.i64 ((↑k : Int) + (1 : Int))]) (by kernel_rfl) (by (first | omega | assumption | exact ⟨rfl, trivial⟩ | simp only [AllP, inK_iff, roomOK_iff, decide_eq_true_eq, Bool.and_eq_true, Bool.or_eq_true, Bool.not_eq_true', decide_eq_false_iff_not, and_true, true_and]; (first | omega | (and_intros <;> intros <;> (try and_intros) <;> first | omega | assumption | exact trivial)))) ?_
        refine good_backJ (k + 1) [(↑k : Int) + (1 : Int) = (↑(k + (1 : Nat)) : Int), daysF v (List.take k l) = daysF v (List.take (k + (1 : Nat)) l), List.length l = List.length l ∧ ∀ (i : Nat), i < List.length l → (fun i => Piece.cells (List.getD l i default)) i = (fun i => Piece.cells (List.getD l i default)) i, v = v] (by kernel_rfl) (by kernel_rfl) ⟨(by omega), ?_, ⟨rfl, fun _ _ => rfl⟩, rfl, trivial⟩ (by omega) (by show _ < _; omega)
        rw [hs, daysF_snoc, if_neg hc3]; omega
    · have hge : k = l.length := by simp only [decide_eq_false_iff_not] at hc2; omega
      subst hge
      rw [List.take_length]
      refine good_run 2 (obs := []) (by kernel_rfl) trivial ?_
      refine good_leaveJ (by kernel_rfl) ?_
      refine good_run 8 (obs := []) (by kernel_rfl) trivial ?_
      refine good_fin [daysF v l = daysF v l] (by kernel_rfl) ⟨rfl, trivial⟩
theorem s22 (l : List Piece) (from' v : Int) : Spec Try.prog 22 [pieces l, .int .i64 from', .int .i64 v] (.tup [.int .i64 (firstR l from' v), .bool (decide (check l = 0) && okV (firstP l from' v))]) := by
  refine spec_of_good mixed Try.func22 F22_ok (by kernel_rfl) ?_
  refine good_run 10 (obs := []) (by kernel_rfl) trivial ?_
  refine good_call (c := True) (by kernel_rfl) (fun _ => SVles.refl _) (fun _ => s23 (l)) (by kernel_rfl) ?_
  refine good_run 3 (obs := []) (by kernel_rfl) trivial ?_
  refine good_cond (!decide (check l = (0 : Int))) (by kernel_rfl) (fun hc1 => ?_) (fun hc1 => ?_)
  · simp only [Bool.not_eq_true', decide_eq_false_iff_not] at hc1
    have h1 : (decide (check l = 0) && okV (firstP l from' v)) = false := by rw [decide_eq_false hc1]; rfl
    have h2 : firstR l from' v = 0 := if_neg hc1
    rw [h1, h2]
    refine good_run 8 (obs := []) (by kernel_rfl) trivial ?_
    refine good_fin [(0 : Int) = (0 : Int), false = false] (by kernel_rfl) ⟨rfl, rfl, trivial⟩
  · simp only [Bool.not_eq_false', decide_eq_true_eq] at hc1
    have h1 : (decide (check l = 0) && okV (firstP l from' v)) = okV (firstP l from' v) := by rw [decide_eq_true hc1]; rfl
    have h2 : firstR l from' v = optV (firstP l from' v) := if_pos hc1
    rw [h1, h2]
    have hlen := (check_zero.1 hc1).1
    refine good_run 8 (obs := []) (by kernel_rfl) trivial ?_
    refine good_loopJ (fun k : Nat => ⟨[(8, .sv (.int .i64 (k))), (0, LV.sv (SV.lst (3 : Nat) (List.length l) fun i => Piece.cells (List.getD l i default))), (1, LV.sv (SV.int IntKind.i64 from')), (2, LV.sv (SV.int IntKind.i64 v))], []⟩) (fun k => k ≤ l.length ∧ ∀ j, j < k → (decide ((l.getD j default).Value = v) && decide (from' < (l.getD j default).Until)) = false) (fun k => l.length - k) (0) [(0 : Int) = (0 : Int), List.length l = List.length l ∧ ∀ (i : Nat), i < List.length l → (fun i => Piece.cells (List.getD l i default)) i = (fun i => Piece.cells (List.getD l i default)) i, from' = from', v = v] (by kernel_rfl) (by kernel_rfl) ⟨rfl, ⟨rfl, fun _ _ => rfl⟩, rfl, rfl, trivial⟩ ⟨by omega, by omega⟩ ?_
    intro k hk
    refine good_run 9 (obs := []) (by kernel_rfl) trivial ?_
    refine good_cond (decide ((↑k : Int) < (↑(List.length l) : Int))) (by kernel_rfl) (fun hc2 => ?_) (fun hc2 => ?_)
    · have hlt : k < l.length := by simp only [decide_eq_true_eq] at hc2; omega
      refine good_run 24 (obs := [(3 : Nat) = (3 : Nat) ∧ (0 : Int) ≤ (↑k : Int) ∧ (↑k : Int) < (↑(List.length l) : Int), decide ((List.getD l k default).Value = v) = true ∧ True → (3 : Nat) = (3 : Nat) ∧ (0 : Int) ≤ (↑k : Int) ∧ (↑k : Int) < (↑(List.length l) : Int)]) (by kernel_rfl) (by (first | omega | assumption | exact ⟨rfl, trivial⟩ | simp only [AllP, inK_iff, roomOK_iff, decide_eq_true_eq, Bool.and_eq_true, Bool.or_eq_true, Bool.not_eq_true', decide_eq_false_iff_not, and_true, true_and]; (first | omega | (and_intros <;> intros <;> (try and_intros) <;> first | omega | assumption | exact trivial)))) ?_
      refine good_cond (decide ((List.getD l k default).Value = v) && decide (from' < (List.getD l k default).Until)) (by kernel_rfl) (fun hc3 => ?_) (fun hc3 => ?_)
      · have hf : firstP l from' v = some (max from' (l.getD k default).From) := by
          rcases findI_cases l (fun p => decide (p.Value = v) && decide (from' < p.Until)) with ⟨e, _, h, _⟩ | ⟨i, hi, e, _, h, h5, _⟩
          · have := findI_hit l (fun p => decide (p.Value = v) && decide (from' < p.Until)) k hlt hc3 hk.2
            omega
          · have := findI_hit l (fun p => decide (p.Value = v) && decide (from' < p.Until)) k hlt hc3 hk.2
            have : i = k := by omega
            subst this
            rw [firstP, h]; rfl
        rw [hf]
        refine good_run 17 (obs := [(3 : Nat) = (3 : Nat) ∧ (0 : Int) ≤ (↑k : Int) ∧ (↑k : Int) < (↑(List.length l) : Int)]) (by kernel_rfl) (by (first | omega | assumption | exact ⟨rfl, trivial⟩ | simp only [AllP, inK_iff, roomOK_iff, decide_eq_true_eq, Bool.and_eq_true, Bool.or_eq_true, Bool.not_eq_true', decide_eq_false_iff_not, and_true, true_and]; (first | omega | (and_intros <;> intros <;> (try and_intros) <;> first | omega | assumption | exact trivial)))) ?_
        refine good_leaveJ (by kernel_rfl) ?_
        refine good_run 2 (obs := []) (by kernel_rfl) trivial ?_
        refine good_fin [max (List.getD l k default).From from' = optV (some (max from' (List.getD l k default).From)), true = okV (some (max from' (List.getD l k default).From))] (by kernel_rfl) ⟨?_, (by rfl), trivial⟩
        show max (l.getD k default).From from' = max from' (l.getD k default).From
        omega
      · refine good_run 8 (obs := [InK IntKind.i64 ((↑k : Int) + (1 : Int))]) (by kernel_rfl) (by (first | omega | assumption | exact ⟨rfl, trivial⟩ | simp only [AllP, inK_iff, roomOK_iff, decide_eq_true_eq, Bool.and_eq_true, Bool.or_eq_true, Bool.not_eq_true', decide_eq_false_iff_not, and_true, true_and]; (first | omega | (and_intros <;> intros <;> (try and_intros) <;> first | omega | assumption | exact trivial)))) ?_
        refine good_backJ (k + 1) [(↑k : Int) + (1 : Int) = (↑(k + (1 : Nat)) : Int), List.length l = List.length l ∧ ∀ (i : Nat), i < List.length l → (fun i => Piece.cells (List.getD l i default)) i = (fun i => Piece.cells (List.getD l i default)) i, from' = from', v = v] (by kernel_rfl) (by kernel_rfl) ⟨(by omega), ⟨rfl, fun _ _ => rfl⟩, rfl, rfl, trivial⟩ ?_ (by show _ < _; omega)
        exact ⟨hlt, fun j hj => by
          rcases Nat.lt_or_ge j k with h' | h'
          · exact hk.2 j h'
          · have : j = k := by omega
            subst this; exact hc3⟩
    · have hge : k = l.length := by simp only [decide_eq_false_iff_not] at hc2; have := hk.1; omega
      subst hge
      have hf : firstP l from' v = none := by
        rcases findI_cases l (fun p => decide (p.Value = v) && decide (from' < p.Until)) with ⟨e, _, h, _⟩ | ⟨i, hi, e, _, h, h5, _⟩
        · rw [firstP, h]; rfl
        · rw [hk.2 i hi] at h5; cases h5
      rw [hf]
      refine good_run 2 (obs := []) (by kernel_rfl) trivial ?_
      refine good_leaveJ (by kernel_rfl) ?_
      refine good_run 8 (obs := []) (by kernel_rfl) trivial ?_
      refine good_fin [(0 : Int) = optV none, false = okV none] (by kernel_rfl) ⟨(by rfl), (by rfl), trivial⟩
theorem eq47 : EqOK Try.prog 47 3 := eqOK_flat 5 (by decide) (by kernel_rfl) ⟨_, Try.underlying47⟩ (by kernel_rfl)
theorem piece_ints (p q : Piece) : ([p.From, p.Until, p.Value] = [q.From, q.Until, q.Value]) ↔ p = q := by
  constructor
  · intro h
    simp only [List.cons.injEq, and_true] at h
    cases p; cases q; simp_all
  · intro h; rw [h]
theorem s16 (a b : List Piece) : Spec Try.prog 16 [pieces a, pieces b] (.bool (decide (a = b))) := by
  refine spec_len 0 rfl (hasBody_of_slim Try.func16 F16_ok) fun hlen => ?_
  refine spec_of_good mixed Try.func16 F16_ok (by kernel_rfl) ?_
  have heq := eq47
  refine good_run 15 (obs := []) (by kernel_rfl) trivial ?_
  refine good_cond (!decide ((↑(List.length a) : Int) = (↑(List.length b) : Int))) (by kernel_rfl) (fun hc1 => ?_) (fun hc1 => ?_)
  · simp only [Bool.not_eq_true', decide_eq_false_iff_not] at hc1
    have : decide (a = b) = false := decide_eq_false fun e => hc1 (by rw [e])
    rw [this]
    refine good_run 7 (obs := []) (by kernel_rfl) trivial ?_
    refine good_fin [false = false] (by kernel_rfl) ⟨rfl, trivial⟩
  · simp only [Bool.not_eq_false', decide_eq_true_eq] at hc1
    have hab : a.length = b.length := by omega
    refine good_run 8 (obs := []) (by kernel_rfl) trivial ?_
    refine good_loopJ (fun k : Nat => ⟨[(5, .sv (.int .i64 (k))), (0, LV.sv (SV.lst (3 : Nat) (List.length a) fun i => Piece.cells (List.getD a i default))), (1, LV.sv (SV.lst (3 : Nat) (List.length b) fun i => Piece.cells (List.getD b i default)))], []⟩) (fun k => k ≤ a.length ∧ ∀ i, i < k → a.getD i default = b.getD i default) (fun k => a.length - k) (0) [(0 : Int) = (0 : Int), List.length a = List.length a ∧ ∀ (i : Nat), i < List.length a → (fun i => Piece.cells (List.getD a i default)) i = (fun i => Piece.cells (List.getD a i default)) i, List.length b = List.length b ∧ ∀ (i : Nat), i < List.length b → (fun i => Piece.cells (List.getD b i default)) i = (fun i => Piece.cells (List.getD b i default)) i] (by kernel_rfl) (by kernel_rfl) ⟨rfl, ⟨rfl, fun _ _ => rfl⟩, ⟨rfl, fun _ _ => rfl⟩, trivial⟩ ⟨by omega, by omega⟩ ?_
    intro k hk
    refine good_run 9 (obs := []) (by kernel_rfl) trivial ?_
    refine good_cond (decide ((↑k : Int) < (↑(List.length a) : Int))) (by kernel_rfl) (fun hc2 => ?_) (fun hc2 => ?_)
    · have hlt : k < a.length := by simp only [decide_eq_true_eq] at hc2; omega
      refine good_run 16 (obs := [True → (3 : Nat) = (3 : Nat) ∧ (0 : Int) ≤ (↑k : Int) ∧ (↑k : Int) < (↑(List.length a) : Int), True → (0 : Nat) + (3 : Nat) ≤ (3 : Nat), True → (3 : Nat) = (3 : Nat) ∧ (0 : Int) ≤ (↑k : Int) ∧ (↑k : Int) < (↑(List.length b) : Int), True → (0 : Nat) + (3 : Nat) ≤ (3 : Nat), True → EqOK Try.prog (47 : TypeId) (3 : Nat) ∧ (3 : Nat) = (3 : Nat)]) (by kernel_rfl) (by (first | omega | assumption | exact ⟨rfl, trivial⟩ | simp only [AllP, inK_iff, roomOK_iff, decide_eq_true_eq, Bool.and_eq_true, Bool.or_eq_true, Bool.not_eq_true', decide_eq_false_iff_not, and_true, true_and]; (first | omega | (and_intros <;> intros <;> (try and_intros) <;> first | omega | assumption | exact trivial)))) ?_
      refine good_cond (true ^^ decide ([(List.getD a k default).From, (List.getD a k default).Until, (List.getD a k default).Value] = [(List.getD b k default).From, (List.getD b k default).Until, (List.getD b k default).Value])) (by kernel_rfl) (fun hc3 => ?_) (fun hc3 => ?_)
      · have hne : a.getD k default ≠ b.getD k default := fun e => by rw [e] at hc3; simp at hc3
        have : decide (a = b) = false := decide_eq_false fun e => hne (by rw [e])
        rw [this]
        refine good_run 8 (obs := []) (by kernel_rfl) trivial ?_
        refine good_leaveJ (by kernel_rfl) ?_
        refine good_run 2 (obs := []) (by kernel_rfl) trivial ?_
        refine good_fin [false = false] (by kernel_rfl) ⟨rfl, trivial⟩
      · have he : a.getD k default = b.getD k default := by
          refine (piece_ints _ _).1 ?_
          simpa using hc3
        refine good_run 8 (obs := [InK IntKind.i64 ((↑k : Int) + (1 : Int))]) (by kernel_rfl) (by (first | omega | assumption | exact ⟨rfl, trivial⟩ | simp only [AllP, inK_iff, roomOK_iff, decide_eq_true_eq, Bool.and_eq_true, Bool.or_eq_true, Bool.not_eq_true', decide_eq_false_iff_not, and_true, true_and]; (first | omega | (and_intros <;> intros <;> (try and_intros) <;> first | omega | assumption | exact trivial)))) ?_
        refine good_backJ (k + 1) [(↑k : Int) + (1 : Int) = (↑(k + (1 : Nat)) : Int), List.length a = List.length a ∧ ∀ (i : Nat), i < List.length a → (fun i => Piece.cells (List.getD a i default)) i = (fun i => Piece.cells (List.getD a i default)) i, List.length b = List.length b ∧ ∀ (i : Nat), i < List.length b → (fun i => Piece.cells (List.getD b i default)) i = (fun i => Piece.cells (List.getD b i default)) i] (by kernel_rfl) (by kernel_rfl) ⟨(by omega), ⟨rfl, fun _ _ => rfl⟩, ⟨rfl, fun _ _ => rfl⟩, trivial⟩ ?_ (by show _ < _; omega)
        exact ⟨hlt, fun i hi => by
          rcases Nat.lt_or_ge i k with h | h
          · exact hk.2 i h
          · have : i = k := by omega
            subst this; exact he⟩
    · have hge : k = a.length := by simp only [decide_eq_false_iff_not] at hc2; have := hk.1; omega
      have : decide (a = b) = true := decide_eq_true (ext_getD a b hab fun i hi => hk.2 i (by omega))
      rw [this]
      refine good_run 2 (obs := []) (by kernel_rfl) trivial ?_
      refine good_leaveJ (by kernel_rfl) ?_
      refine good_run 7 (obs := []) (by kernel_rfl) trivial ?_
      refine good_fin [true = true] (by kernel_rfl) ⟨rfl, trivial⟩
end Go.Sx.T
