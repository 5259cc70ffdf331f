/- Contracts of functions of the program, each proved by running its code symbolically (TN). -/
import Derived.Test.YtjkjagbpmcgifaaTM
namespace Go.Sx.T
open Go Go.Proofs Go.Sx
set_option maxRecDepth 100000
set_option maxHeartbeats 4000000
set_option linter.unusedVariables false
set_option linter.unusedSimpArgs false
def chk2 (a b : List Piece) : Int := if check a ≠ 0 then check a else check b
def overV (a b : List Piece) (d : Int) : Option Int := orV (atF b d) (atF a d)
def diffV (a b : List Piece) (d : Int) : Option Int := if atF a d = atF b d then none else some 0
theorem s39 (a b : List Piece) : Spec Try.prog 39 [pieces a, pieces b] (.int .i64 (chk2 a b)) := by
  refine spec_of_good mixed Try.func39 F39_ok (by kernel_rfl) ?_
  refine good_run 9 (obs := []) (by kernel_rfl) trivial ?_
  refine good_call (c := True) (by kernel_rfl) (fun _ => SVles.refl _) (fun _ => s18 (a)) (by kernel_rfl) ?_
  refine good_run 9 (obs := []) (by kernel_rfl) trivial ?_
  refine good_cond (!decide (check a = (0 : Int))) (by kernel_rfl) (fun hc1 => ?_) (fun hc1 => ?_)
  · simp only [Bool.not_eq_true', decide_eq_false_iff_not] at hc1
    have : chk2 a b = check a := if_pos hc1
    rw [this]
    refine good_run 8 (obs := []) (by kernel_rfl) trivial ?_
    refine good_fin [check a = check a] (by kernel_rfl) ⟨rfl, trivial⟩
  · simp only [Bool.not_eq_false', decide_eq_true_eq] at hc1
    have : chk2 a b = check b := if_neg (fun h => h hc1)
    rw [this]
    refine good_run 4 (obs := []) (by kernel_rfl) trivial ?_
    refine good_call (c := True) (by kernel_rfl) (fun _ => SVles.refl _) (fun _ => s18 (b)) (by kernel_rfl) ?_
    refine good_run 4 (obs := []) (by kernel_rfl) trivial ?_
    refine good_fin [check b = check b] (by kernel_rfl) ⟨rfl, trivial⟩
theorem s45 (a b : List Piece) (d : Int) : Spec Try.prog 45 [.int .i64 d, .ref [pieces b] 0, .ref [pieces a] 0] (.tup [.int .i64 (optV (overV a b d)), .bool (okV (overV a b d))]) := by
  refine spec_of_good mixed Try.func45 F45_ok (by kernel_rfl) ?_
  refine good_run 11 (obs := []) (by kernel_rfl) trivial ?_
  refine good_call (c := True) (by kernel_rfl) (fun _ => SVles.refl _) (fun _ => s17 (b) (d)) (by kernel_rfl) ?_
  refine good_run 12 (obs := []) (by kernel_rfl) trivial ?_
  refine good_cond (okV (atF b d)) (by kernel_rfl) (fun hc1 => ?_) (fun hc1 => ?_)
  · obtain ⟨v, hv⟩ := Option.isSome_iff_exists.1 (show (atF b d).isSome = true from hc1)
    have : overV a b d = some v := by rw [overV, hv]; rfl
    rw [this, hv]
    refine good_run 9 (obs := []) (by kernel_rfl) trivial ?_
    refine good_fin [optV (some v) = optV (some v), true = okV (some v)] (by kernel_rfl) ⟨rfl, (by rfl), trivial⟩
  · have hv : atF b d = none := by
      cases h : atF b d with
      | none => rfl
      | some v => rw [h] at hc1; cases hc1
    have : overV a b d = atF a d := by rw [overV, hv]; rfl
    rw [this]
    refine good_run 5 (obs := []) (by kernel_rfl) trivial ?_
    refine good_call (c := True) (by kernel_rfl) (fun _ => SVles.refl _) (fun _ => s17 (a) (d)) (by kernel_rfl) ?_
    refine good_run 7 (obs := []) (by kernel_rfl) trivial ?_
    refine good_fin [optV (atF a d) = optV (atF a d), okV (atF a d) = okV (atF a d)] (by kernel_rfl) ⟨rfl, rfl, trivial⟩
theorem s42 (a b : List Piece) (d : Int) : Spec Try.prog 42 [.int .i64 d, .ref [pieces a] 0, .ref [pieces b] 0] (.tup [.int .i64 (optV (diffV a b d)), .bool (okV (diffV a b d))]) := by
  refine spec_of_good mixed Try.func42 F42_ok (by kernel_rfl) ?_
  have hd : ((okV (atF a d) != okV (atF b d)) || !decide (optV (atF a d) = optV (atF b d))) = okV (diffV a b d) ∧ optV (diffV a b d) = 0 := by
    unfold diffV okV optV
    cases atF a d <;> cases atF b d
    · simp
    · simp
    · simp
    · rename_i x y
      by_cases h : x = y <;> simp [h]
  refine good_run 10 (obs := []) (by kernel_rfl) trivial ?_
  refine good_call (c := True) (by kernel_rfl) (fun _ => SVles.refl _) (fun _ => s17 (a) (d)) (by kernel_rfl) ?_
  refine good_run 11 (obs := []) (by kernel_rfl) trivial ?_
  refine good_call (c := True) (by kernel_rfl) (fun _ => SVles.refl _) (fun _ => s17 (b) (d)) (by kernel_rfl) ?_
  refine good_run 22 (obs := []) (by kernel_rfl) trivial ?_
  refine good_fin [(0 : Int) = optV (diffV a b d), (okV (atF a d) != okV (atF b d) || !decide (optV (atF a d) = optV (atF b d))) = okV (diffV a b d)] (by kernel_rfl) ⟨(by omega), ?_, trivial⟩
  exact hd.1
theorem two_lists (a b : List Piece) : SVle (.lst 1 2 (cutRows 1 [pieces a, pieces b])) (lists [a, b]) :=
  svle_lst rfl fun i hi => by
    match i, hi with
    | 0, _ => exact SVles.refl _
    | 1, _ => exact SVles.refl _
theorem no_span : SVle (.val (.slice none 0 0)) (spans []) := svle_nil rfl
def overR (a b : List Piece) : List Piece × Int := if chk2 a b ≠ 0 then ([], chk2 a b) else buildR (isort (keysOf (psOf [] [a, b]))) (overV a b)
theorem chk2_zero {a b : List Piece} (h : chk2 a b = 0) : check a = 0 ∧ check b = 0 := by
  unfold chk2 at h
  split at h
  · rename_i h1; exact (h1 h).elim
  · rename_i h1; exact ⟨Classical.byContradiction h1, h⟩
theorem s27 (a b : List Piece) : Spec Try.prog 27 [pieces a, pieces b] (.tup [pieces (overR a b).1, .int .i64 (overR a b).2]) := by
  refine spec_of_good mixed Try.func27 F27_ok (by kernel_rfl) ?_
  refine good_run 13 (obs := []) (by kernel_rfl) trivial ?_
  refine good_call (c := True) (by kernel_rfl) (fun _ => SVles.refl _) (fun _ => s39 (a) (b)) (by kernel_rfl) ?_
  refine good_run 9 (obs := []) (by kernel_rfl) trivial ?_
  refine good_cond (!decide (chk2 a b = (0 : Int))) (by kernel_rfl) (fun hc1 => ?_) (fun hc1 => ?_)
  · simp only [Bool.not_eq_true', decide_eq_false_iff_not] at hc1
    have : overR a b = ([], chk2 a b) := if_pos hc1
    rw [this]
    refine good_run 9 (obs := []) (by kernel_rfl) trivial ?_
    refine good_fin [(0 : Nat) = (0 : Nat), chk2 a b = chk2 a b] (by kernel_rfl) ⟨rfl, rfl, trivial⟩
  · simp only [Bool.not_eq_false', decide_eq_true_eq] at hc1
    have : overR a b = buildR (isort (keysOf (psOf [] [a, b]))) (overV a b) := if_neg (fun h => h hc1)
    rw [this]
    obtain ⟨k1, k2⟩ := chk2_zero hc1
    have l1 := (check_zero.1 k1).1
    have l2 := (check_zero.1 k2).1
    have hcl := cut_len [] [a, b]
    simp only [List.length_nil, List.flatten_cons, List.flatten_nil, List.append_nil, List.length_append] at hcl
    refine good_run 6 (obs := []) (by kernel_rfl) trivial ?_
    refine good_own (args := [SV.val (Value.slice none (0 : Nat) (0 : Nat)), SV.lst (1 : Nat) (2 : Nat) (cutRows (1 : Nat) [SV.lst (3 : Nat) (List.length a) fun i => Piece.cells (List.getD a i default), SV.lst (3 : Nat) (List.length b) fun i => Piece.cells (List.getD b i default)])]) (c := True) (by kernel_rfl) (by kernel_rfl) (SVles.cons no_span (SVles.cons (two_lists a b) (SVles.refl []))) (s41 [] [a, b] (by simp) (by simp) (fun l' hl' => by simp at hl'; rcases hl' with rfl | rfl <;> omega)) ?_
    refine good_run 1 (obs := []) (by kernel_rfl) trivial ?_
    refine good_call (c := True) (by kernel_rfl) (fun _ => SVles.refl _) (fun _ => s40 (isort (keysOf (psOf [] [a, b]))) 45 _ (overV a b) (by omega) (fun d => s45 a b d)) (by kernel_rfl) ?_
    refine good_run 7 (obs := []) (by kernel_rfl) trivial ?_
    refine good_fin [List.length (buildR (isort (keysOf (psOf [] [a, b]))) (overV a b)).fst = List.length (buildR (isort (keysOf (psOf [] [a, b]))) (overV a b)).fst ∧ ∀ (i : Nat), i < List.length (buildR (isort (keysOf (psOf [] [a, b]))) (overV a b)).fst → (fun i => Piece.cells (List.getD (buildR (isort (keysOf (psOf [] [a, b]))) (overV a b)).fst i default)) i = (fun i => Piece.cells (List.getD (buildR (isort (keysOf (psOf [] [a, b]))) (overV a b)).fst i default)) i, (buildR (isort (keysOf (psOf [] [a, b]))) (overV a b)).snd = (buildR (isort (keysOf (psOf [] [a, b]))) (overV a b)).snd] (by kernel_rfl) ⟨⟨rfl, fun _ _ => rfl⟩, rfl, trivial⟩
def spanOf (p : Piece) : Span := ⟨p.From, p.Until⟩
def diffR (a b : List Piece) : List Piece × Int := buildR (isort (keysOf (psOf [] [a, b]))) (diffV a b)
def changesR (a b : List Piece) : List Span × Int := if chk2 a b ≠ 0 then ([], chk2 a b) else ((diffR a b).1.map spanOf, (diffR a b).2)
def rowS (l : List Span) : Blk := .row 24 2 l.length true fun i => (l.getD i default).cells
theorem s25 (a b : List Piece) : Spec Try.prog 25 [pieces a, pieces b] (.tup [spans (changesR a b).1, .int .i64 (changesR a b).2]) := by
  refine spec_of_good mixed Try.func25 F25_ok (by kernel_rfl) ?_
  refine good_run 13 (obs := []) (by kernel_rfl) trivial ?_
  refine good_call (c := True) (by kernel_rfl) (fun _ => SVles.refl _) (fun _ => s39 (a) (b)) (by kernel_rfl) ?_
  refine good_run 9 (obs := []) (by kernel_rfl) trivial ?_
  refine good_cond (!decide (chk2 a b = (0 : Int))) (by kernel_rfl) (fun hc1 => ?_) (fun hc1 => ?_)
  · simp only [Bool.not_eq_true', decide_eq_false_iff_not] at hc1
    have : changesR a b = ([], chk2 a b) := if_pos hc1
    rw [this]
    refine good_run 9 (obs := []) (by kernel_rfl) trivial ?_
    refine good_fin [(0 : Nat) = (0 : Nat), chk2 a b = chk2 a b] (by kernel_rfl) ⟨rfl, rfl, trivial⟩
  · simp only [Bool.not_eq_false', decide_eq_true_eq] at hc1
    have hch : changesR a b = ((diffR a b).1.map spanOf, (diffR a b).2) := if_neg (fun h => h hc1)
    rw [hch]
    obtain ⟨k1, k2⟩ := chk2_zero hc1
    have l1 := (check_zero.1 k1).1
    have l2 := (check_zero.1 k2).1
    have hcl := cut_len [] [a, b]
    simp only [List.length_nil, List.flatten_cons, List.flatten_nil, List.append_nil, List.length_append] at hcl
    have hdl : (diffR a b).1.length ≤ 10000 := by
      have hb := buildAt_len (isort (keysOf (psOf [] [a, b]))) (diffV a b) (isort (keysOf (psOf [] [a, b]))).length
      unfold diffR buildR
      split
      · simp
      · show (buildAt _ _ _).length ≤ _; omega
    refine good_run 6 (obs := []) (by kernel_rfl) trivial ?_
    refine good_own (args := [SV.val (Value.slice none (0 : Nat) (0 : Nat)), SV.lst (1 : Nat) (2 : Nat) (cutRows (1 : Nat) [SV.lst (3 : Nat) (List.length a) fun i => Piece.cells (List.getD a i default), SV.lst (3 : Nat) (List.length b) fun i => Piece.cells (List.getD b i default)])]) (c := True) (by kernel_rfl) (by kernel_rfl) (SVles.cons no_span (SVles.cons (two_lists a b) (SVles.refl []))) (s41 [] [a, b] (by simp) (by simp) (fun l' hl' => by simp at hl'; rcases hl' with rfl | rfl <;> omega)) ?_
    refine good_run 1 (obs := []) (by kernel_rfl) trivial ?_
    refine good_call (c := True) (by kernel_rfl) (fun _ => SVles.refl _) (fun _ => (show Spec Try.prog 40 [ints (isort (keysOf (psOf [] [a, b]))), .fn 42 [.ref [pieces a] 0, .ref [pieces b] 0]] (.tup [pieces (diffR a b).1, .int .i64 (diffR a b).2]) from s40 (isort (keysOf (psOf [] [a, b]))) 42 _ (diffV a b) (by omega) (fun d => s42 a b d))) (by kernel_rfl) ?_
    refine good_run 21 (obs := []) (by kernel_rfl) trivial ?_
    refine good_loopJ (fun k : Nat => ⟨[(29, .sv (.int .i64 (k))), (9, .own 4), (28, LV.sv (SV.int IntKind.i64 (↑(List.length (diffR a b).fst) : Int))), (27, LV.sv (SV.lst (3 : Nat) (List.length (diffR a b).fst) fun i => Piece.cells (List.getD (diffR a b).fst i default))), (8, LV.sv (SV.int IntKind.i64 (diffR a b).snd))], [Blk.cells (22 : Nat) false [SV.lst (3 : Nat) (List.length a) fun i => Piece.cells (List.getD a i default)], Blk.cells (22 : Nat) false [SV.lst (3 : Nat) (List.length b) fun i => Piece.cells (List.getD b i default)], Blk.row (22 : Nat) (1 : Nat) (2 : Nat) false (cutRows (1 : Nat) [SV.lst (3 : Nat) (List.length a) fun i => Piece.cells (List.getD a i default), SV.lst (3 : Nat) (List.length b) fun i => Piece.cells (List.getD b i default)]), Blk.row (3 : Nat) (1 : Nat) (List.length (isort (keysOf (psOf [] [a, b])))) false fun i => [SV.int IntKind.i64 (List.getD (isort (keysOf (psOf [] [a, b]))) i (0 : Int))], rowS (((diffR a b).1.take k).map spanOf)]⟩) (fun k => k ≤ (diffR a b).1.length) (fun k => (diffR a b).1.length - k) (0) [List.length a = List.length a ∧ ∀ (i : Nat), i < List.length a → (fun i => Piece.cells (List.getD a i default)) i = (fun i => Piece.cells (List.getD a i default)) i, List.length b = List.length b ∧ ∀ (i : Nat), i < List.length b → (fun i => Piece.cells (List.getD b i default)) i = (fun i => Piece.cells (List.getD b i default)) i, (2 : Nat) = (2 : Nat) ∧ ∀ (i : Nat), i < (2 : Nat) → cutRows (1 : Nat) [SV.lst (3 : Nat) (List.length a) fun i => Piece.cells (List.getD a i default), SV.lst (3 : Nat) (List.length b) fun i => Piece.cells (List.getD b i default)] i = cutRows (1 : Nat) [SV.lst (3 : Nat) (List.length a) fun i => Piece.cells (List.getD a i default), SV.lst (3 : Nat) (List.length b) fun i => Piece.cells (List.getD b i default)] i, List.length (isort (keysOf (psOf [] [a, b]))) = List.length (isort (keysOf (psOf [] [a, b]))) ∧ ∀ (i : Nat), i < List.length (isort (keysOf (psOf [] [a, b]))) → (fun i => [SV.int IntKind.i64 (List.getD (isort (keysOf (psOf [] [a, b]))) i (0 : Int))]) i = (fun i => [SV.int IntKind.i64 (List.getD (isort (keysOf (psOf [] [a, b]))) i (0 : Int))]) i, (0 : Nat) = (0 : Nat), (0 : Int) = (0 : Int), (↑(List.length (diffR a b).fst) : Int) = (↑(List.length (diffR a b).fst) : Int), List.length (diffR a b).fst = List.length (diffR a b).fst ∧ ∀ (i : Nat), i < List.length (diffR a b).fst → (fun i => Piece.cells (List.getD (diffR a b).fst i default)) i = (fun i => Piece.cells (List.getD (diffR a b).fst i default)) i, (diffR a b).snd = (diffR a b).snd] (by kernel_rfl) (by kernel_rfl) ⟨⟨rfl, fun _ _ => rfl⟩, ⟨rfl, fun _ _ => rfl⟩, ⟨rfl, fun _ _ => rfl⟩, ⟨rfl, fun _ _ => rfl⟩, rfl, rfl, rfl, ⟨rfl, fun _ _ => rfl⟩, rfl, trivial⟩ (by omega) ?_
    intro k hk
    have hml : (((diffR a b).1.take k).map spanOf).length ≤ k := by rw [List.length_map, List.length_take]; omega
    refine good_run 6 (obs := []) (by kernel_rfl) trivial ?_
    refine good_cond (decide ((↑k : Int) < (↑(List.length (diffR a b).fst) : Int))) (by kernel_rfl) (fun hc2 => ?_) (fun hc2 => ?_)
    · have hlt : k < (diffR a b).1.length := by simp only [decide_eq_true_eq] at hc2; omega
      have hs : ((diffR a b).1.take (k + 1)).map spanOf = ((diffR a b).1.take k).map spanOf ++ [spanOf ((diffR a b).1.getD k default)] := by
        rw [take_snoc _ default k hlt, List.map_append]; rfl
      refine good_run 26 (obs := [(3 : Nat) = (3 : Nat) ∧ (0 : Int) ≤ (↑k : Int) ∧ (↑k : Int) < (↑(List.length (diffR a b).fst) : Int), (0 : Nat) + (3 : Nat) ≤ (3 : Nat), (3 : Nat) = (3 : Nat) ∧ (0 : Nat) + (3 : Nat) ≤ (3 : Nat), (0 : Nat) + (2 : Nat) ≤ (3 : Nat), (24 : Nat) = (24 : Nat) ∧ (2 : Nat) = (2 : Nat) ∧ (2 : Nat) = (2 : Nat) ∧ roomOK (List.length (List.map spanOf (List.take k (diffR a b).fst)) + (1 : Nat)) (16 : Nat), InK IntKind.i64 ((↑k : Int) + (1 : Int))]) (by kernel_rfl) (by (first | omega | assumption | exact ⟨rfl, trivial⟩ | simp only [AllP, inK_iff, roomOK_iff, decide_eq_true_eq, Bool.and_eq_true, Bool.or_eq_true, Bool.not_eq_true', decide_eq_false_iff_not, and_true, true_and]; (first | omega | (and_intros <;> intros <;> (try and_intros) <;> first | omega | assumption | exact trivial)))) ?_
      refine good_backJ (k + 1) [List.length a = List.length a ∧ ∀ (i : Nat), i < List.length a → (fun i => Piece.cells (List.getD a i default)) i = (fun i => Piece.cells (List.getD a i default)) i, List.length b = List.length b ∧ ∀ (i : Nat), i < List.length b → (fun i => Piece.cells (List.getD b i default)) i = (fun i => Piece.cells (List.getD b i default)) i, (2 : Nat) = (2 : Nat) ∧ ∀ (i : Nat), i < (2 : Nat) → cutRows (1 : Nat) [SV.lst (3 : Nat) (List.length a) fun i => Piece.cells (List.getD a i default), SV.lst (3 : Nat) (List.length b) fun i => Piece.cells (List.getD b i default)] i = cutRows (1 : Nat) [SV.lst (3 : Nat) (List.length a) fun i => Piece.cells (List.getD a i default), SV.lst (3 : Nat) (List.length b) fun i => Piece.cells (List.getD b i default)] i, List.length (isort (keysOf (psOf [] [a, b]))) = List.length (isort (keysOf (psOf [] [a, b]))) ∧ ∀ (i : Nat), i < List.length (isort (keysOf (psOf [] [a, b]))) → (fun i => [SV.int IntKind.i64 (List.getD (isort (keysOf (psOf [] [a, b]))) i (0 : Int))]) i = (fun i => [SV.int IntKind.i64 (List.getD (isort (keysOf (psOf [] [a, b]))) i (0 : Int))]) i, List.length (List.map spanOf (List.take k (diffR a b).fst)) + (1 : Nat) = List.length (List.map spanOf (List.take (k + (1 : Nat)) (diffR a b).fst)) ∧ ∀ (i : Nat), i < List.length (List.map spanOf (List.take k (diffR a b).fst)) + (1 : Nat) → joinGet (List.length (List.map spanOf (List.take k (diffR a b).fst))) (fun i => Span.cells (List.getD (List.map spanOf (List.take k (diffR a b).fst)) i default)) (cutRows (2 : Nat) [SV.int IntKind.i64 (List.getD (diffR a b).fst k default).From, SV.int IntKind.i64 (List.getD (diffR a b).fst k default).Until]) i = (fun i => Span.cells (List.getD (List.map spanOf (List.take (k + (1 : Nat)) (diffR a b).fst)) i default)) i, (↑k : Int) + (1 : Int) = (↑(k + (1 : Nat)) : Int), (↑(List.length (diffR a b).fst) : Int) = (↑(List.length (diffR a b).fst) : Int), List.length (diffR a b).fst = List.length (diffR a b).fst ∧ ∀ (i : Nat), i < List.length (diffR a b).fst → (fun i => Piece.cells (List.getD (diffR a b).fst i default)) i = (fun i => Piece.cells (List.getD (diffR a b).fst i default)) i, (diffR a b).snd = (diffR a b).snd] (by kernel_rfl) (by kernel_rfl) ⟨⟨rfl, fun _ _ => rfl⟩, ⟨rfl, fun _ _ => rfl⟩, ⟨rfl, fun _ _ => rfl⟩, ⟨rfl, fun _ _ => rfl⟩, ?_, (by omega), rfl, ⟨rfl, fun _ _ => rfl⟩, rfl, trivial⟩ (by omega) (by show _ < _; omega)
      rw [hs]
      refine ⟨by rw [List.length_append]; rfl, fun i hi => ?_⟩
      unfold joinGet
      split
      · rename_i h; simp only; rw [getD_append_left _ _ _ h]
      · rename_i h
        have : i = (((diffR a b).1.take k).map spanOf).length := by omega
        subst this
        have hl' : (((diffR a b).1.take k).map spanOf ++ [spanOf ((diffR a b).1.getD k default)]).getD (((diffR a b).1.take k).map spanOf).length default = spanOf ((diffR a b).1.getD k default) := by
          rw [List.getD_eq_getElem?_getD, List.getElem?_append_right (Nat.le_refl _), Nat.sub_self]; rfl
        rw [Nat.sub_self]
        show _ = Span.cells (List.getD _ _ _)
        rw [hl']
        rfl
    · have hge : k = (diffR a b).1.length := by simp only [decide_eq_false_iff_not] at hc2; omega
      subst hge
      rw [List.take_length]
      refine good_run 2 (obs := []) (by kernel_rfl) trivial ?_
      refine good_leaveJ (by kernel_rfl) ?_
      refine good_run 10 (obs := []) (by kernel_rfl) trivial ?_
      refine good_fin [List.length (List.map spanOf (diffR a b).fst) = List.length (List.map spanOf (diffR a b).fst, (diffR a b).snd).fst ∧ ∀ (i : Nat), i < List.length (List.map spanOf (diffR a b).fst) → (fun i => Span.cells (List.getD (List.map spanOf (diffR a b).fst) i default)) i = (fun i => Span.cells (List.getD (List.map spanOf (diffR a b).fst, (diffR a b).snd).fst i default)) i, (diffR a b).snd = (diffR a b).snd] (by kernel_rfl) ⟨⟨rfl, fun _ _ => rfl⟩, rfl, trivial⟩
end Go.Sx.T
