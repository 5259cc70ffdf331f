/- Contracts of functions of the program, each proved by running its code symbolically (TD). -/
import Derived.Test.YtjkjagbpmcgifaaTB
namespace Go.Sx.T
open Go Go.Proofs Go.Sx
set_option maxRecDepth 100000
set_option maxHeartbeats 4000000
set_option linter.unusedVariables false
set_option linter.unusedSimpArgs false
def lastP (l : List Piece) : Piece := l.getD (l.length - 1) default
def joins (l : List Piece) (a v : Int) : Bool := decide (0 < (l.length : Int)) && decide ((lastP l).Until = a) && decide ((lastP l).Value = v)
def putP (l : List Piece) (x : Piece) : List Piece := if joins l x.From x.Value = true then l.set (l.length - 1) ⟨(lastP l).From, x.Until, (lastP l).Value⟩ else l ++ [x]
def buildAt (D : List Int) (g : Int → Option Int) : Nat → List Piece
  | 0 => []
  | k + 1 => match g (D.getD k 0) with
    | none => buildAt D g k
    | some v => if k + 1 = D.length then buildAt D g k else putP (buildAt D g k) ⟨D.getD k 0, D.getD (k + 1) 0, v⟩
theorem putP_len (l : List Piece) (x : Piece) : (putP l x).length ≤ l.length + 1 := by unfold putP; split <;> simp
theorem buildAt_len (D : List Int) (g : Int → Option Int) : ∀ k, (buildAt D g k).length ≤ k
  | 0 => by simp [buildAt]
  | k + 1 => by
    have h := buildAt_len D g k
    unfold buildAt
    split
    · omega
    · split
      · omega
      · have := putP_len (buildAt D g k) ⟨D.getD k 0, D.getD (k + 1) 0, ‹Int›⟩; omega
def buildR (D : List Int) (g : Int → Option Int) : List Piece × Int := if 1024 < (buildAt D g D.length).length then ([], 8) else (buildAt D g D.length, 0)
def rowP (l : List Piece) : Blk := .row 47 3 l.length true fun i => (l.getD i default).cells
theorem s40 (D : List Int) (f : FuncId) (caps : List SV) (g : Int → Option Int) (hD : D.length ≤ 1000000000) (h : ∀ d : Int, Spec Try.prog f (.int .i64 d :: caps) (.tup [.int .i64 (optV (g d)), .bool (okV (g d))])) :
    Spec Try.prog 40 [ints D, .fn f caps] (.tup [pieces (buildR D g).1, .int .i64 (buildR D g).2]) := by
  refine spec_of_good mixed Try.func40 F40_ok (by kernel_rfl) ?_
  refine good_run 20 (obs := []) (by kernel_rfl) trivial ?_
  refine good_loopJ (fun k : Nat => ⟨[(14, .sv (.int .i64 (k))), (6, .own 0), (13, LV.sv (SV.int IntKind.i64 (↑(List.length D) : Int))), (12, LV.sv (SV.lst (1 : Nat) (List.length D) fun i => [SV.int IntKind.i64 (List.getD D i (0 : Int))])), (0, LV.sv (SV.lst (1 : Nat) (List.length D) fun i => [SV.int IntKind.i64 (List.getD D i (0 : Int))])), (1, LV.sv (SV.fn f caps))], [rowP (buildAt D g k)]⟩) (fun k => k ≤ D.length) (fun k => D.length - k) (0) [(0 : Nat) = (0 : Nat), (0 : Int) = (0 : Int), (↑(List.length D) : Int) = (↑(List.length D) : Int), List.length D = List.length D ∧ ∀ (i : Nat), i < List.length D → (fun i => [SV.int IntKind.i64 (List.getD D i (0 : Int))]) i = (fun i => [SV.int IntKind.i64 (List.getD D i (0 : Int))]) i, List.length D = List.length D ∧ ∀ (i : Nat), i < List.length D → (fun i => [SV.int IntKind.i64 (List.getD D i (0 : Int))]) i = (fun i => [SV.int IntKind.i64 (List.getD D i (0 : Int))]) i, SVle (SV.fn f caps) (SV.fn f caps)] (by kernel_rfl) (by kernel_rfl) ⟨rfl, rfl, rfl, ⟨rfl, fun _ _ => rfl⟩, ⟨rfl, fun _ _ => rfl⟩, SVle.refl _, trivial⟩ (by omega) ?_
  intro k hk
  have hbl := buildAt_len D g k
  refine good_run 6 (obs := []) (by kernel_rfl) trivial ?_
  refine good_cond (decide ((↑k : Int) < (↑(List.length D) : Int))) (by kernel_rfl) (fun hc1 => ?_) (fun hc1 => ?_)
  · have hlt : k < D.length := by simp only [decide_eq_true_eq] at hc1; omega
    refine good_run 16 (obs := [(1 : Nat) = (1 : Nat) ∧ (0 : Int) ≤ (↑k : Int) ∧ (↑k : Int) < (↑(List.length D) : Int)]) (by kernel_rfl) (by (first | omega | assumption | exact ⟨rfl, trivial⟩ | simp only [AllP, inK_iff, roomOK_iff, decide_eq_true_eq, Bool.and_eq_true, Bool.or_eq_true, Bool.not_eq_true', decide_eq_false_iff_not, and_true, true_and]; (first | omega | (and_intros <;> intros <;> (try and_intros) <;> first | omega | assumption | exact trivial)))) ?_
    refine good_call (c := True) (by kernel_rfl) (fun _ => SVles.refl _) (fun _ => h (D.getD k 0)) (by kernel_rfl) ?_
    refine good_run 21 (obs := [(!okV (g (List.getD D k (0 : Int)))) = false ∧ True → InK IntKind.i64 ((↑k : Int) + (1 : Int))]) (by kernel_rfl) (by (first | omega | assumption | exact ⟨rfl, trivial⟩ | simp only [AllP, inK_iff, roomOK_iff, decide_eq_true_eq, Bool.and_eq_true, Bool.or_eq_true, Bool.not_eq_true', decide_eq_false_iff_not, and_true, true_and]; (first | omega | (and_intros <;> intros <;> (try and_intros) <;> first | omega | assumption | exact trivial)))) ?_
    refine good_cond (!okV (g (List.getD D k (0 : Int))) || decide ((↑k : Int) + (1 : Int) = (↑(List.length D) : Int))) (by kernel_rfl) (fun hc2 => ?_) (fun hc2 => ?_)
    · have e : buildAt D g (k + 1) = buildAt D g k := by
        simp only [Bool.or_eq_true, Bool.not_eq_true', decide_eq_true_eq] at hc2
        rw [buildAt]
        cases hg : g (D.getD k 0) with
        | none => rfl
        | some v =>
          rw [hg] at hc2
          simp only [okV, Option.isSome_some, Bool.true_eq_false, false_or] at hc2
          simp only
          rw [if_pos (by omega)]
      refine good_run 8 (obs := [InK IntKind.i64 ((↑k : Int) + (1 : Int))]) (by kernel_rfl) (by (first | omega | assumption | exact ⟨rfl, trivial⟩ | simp only [AllP, inK_iff, roomOK_iff, decide_eq_true_eq, Bool.and_eq_true, Bool.or_eq_true, Bool.not_eq_true', decide_eq_false_iff_not, and_true, true_and]; (first | omega | (and_intros <;> intros <;> (try and_intros) <;> first | omega | assumption | exact trivial)))) ?_
      refine good_backJ (k + 1) [List.length (buildAt D g k) = List.length (buildAt D g (k + (1 : Nat))) ∧ ∀ (i : Nat), i < List.length (buildAt D g k) → (fun i => Piece.cells (List.getD (buildAt D g k) i default)) i = (fun i => Piece.cells (List.getD (buildAt D g (k + (1 : Nat))) i default)) i, (↑k : Int) + (1 : Int) = (↑(k + (1 : Nat)) : Int), (↑(List.length D) : Int) = (↑(List.length D) : Int), List.length D = List.length D ∧ ∀ (i : Nat), i < List.length D → (fun i => [SV.int IntKind.i64 (List.getD D i (0 : Int))]) i = (fun i => [SV.int IntKind.i64 (List.getD D i (0 : Int))]) i, List.length D = List.length D ∧ ∀ (i : Nat), i < List.length D → (fun i => [SV.int IntKind.i64 (List.getD D i (0 : Int))]) i = (fun i => [SV.int IntKind.i64 (List.getD D i (0 : Int))]) i, SVle (SV.fn f caps) (SV.fn f caps)] (by kernel_rfl) (by kernel_rfl) ⟨?_, (by omega), rfl, ⟨rfl, fun _ _ => rfl⟩, ⟨rfl, fun _ _ => rfl⟩, SVle.refl _, trivial⟩ (by omega) (by show _ < _; omega)
      rw [e]; exact ⟨rfl, fun _ _ => rfl⟩
    · simp only [Bool.or_eq_false_iff, Bool.not_eq_false', decide_eq_false_iff_not] at hc2
      obtain ⟨v, hv⟩ := Option.isSome_iff_exists.1 (show (g (D.getD k 0)).isSome = true from hc2.1)
      have hne : k + 1 ≠ D.length := by omega
      have e : buildAt D g (k + 1) = putP (buildAt D g k) ⟨D.getD k 0, D.getD (k + 1) 0, v⟩ := by
        rw [buildAt, hv]; simp only; rw [if_neg hne]
      rw [hv]
      have ek : ((k : Int) + 1).toNat = k + 1 := by omega
      have el : (((buildAt D g k).length : Int) - 1).toNat = (buildAt D g k).length - 1 := by omega
      refine good_run 36 (obs := [decide ((0 : Int) < (↑(List.length (buildAt D g k)) : Int)) = true ∧ True → InK IntKind.i64 ((↑(List.length (buildAt D g k)) : Int) - (1 : Int)), decide ((0 : Int) < (↑(List.length (buildAt D g k)) : Int)) = true ∧ True → (3 : Nat) = (3 : Nat) ∧ (0 : Int) ≤ (↑(List.length (buildAt D g k)) : Int) - (1 : Int) ∧ (↑(List.length (buildAt D g k)) : Int) - (1 : Int) < (↑(List.length (buildAt D g k)) : Int), (decide ((0 : Int) < (↑(List.length (buildAt D g k)) : Int)) && decide ((List.getD (buildAt D g k) (Int.toNat ((↑(List.length (buildAt D g k)) : Int) - (1 : Int))) default).Until = List.getD D k (0 : Int))) = true ∧ True → InK IntKind.i64 ((↑(List.length (buildAt D g k)) : Int) - (1 : Int)), (decide ((0 : Int) < (↑(List.length (buildAt D g k)) : Int)) && decide ((List.getD (buildAt D g k) (Int.toNat ((↑(List.length (buildAt D g k)) : Int) - (1 : Int))) default).Until = List.getD D k (0 : Int))) = true ∧ True → (3 : Nat) = (3 : Nat) ∧ (0 : Int) ≤ (↑(List.length (buildAt D g k)) : Int) - (1 : Int) ∧ (↑(List.length (buildAt D g k)) : Int) - (1 : Int) < (↑(List.length (buildAt D g k)) : Int)]) (by kernel_rfl) (by (first | omega | assumption | exact ⟨rfl, trivial⟩ | simp only [AllP, inK_iff, roomOK_iff, decide_eq_true_eq, Bool.and_eq_true, Bool.or_eq_true, Bool.not_eq_true', decide_eq_false_iff_not, and_true, true_and]; (first | omega | (and_intros <;> intros <;> (try and_intros) <;> first | omega | assumption | exact trivial)))) ?_
      refine good_cond (decide ((0 : Int) < (↑(List.length (buildAt D g k)) : Int)) && decide ((List.getD (buildAt D g k) (Int.toNat ((↑(List.length (buildAt D g k)) : Int) - (1 : Int))) default).Until = List.getD D k (0 : Int)) && decide ((List.getD (buildAt D g k) (Int.toNat ((↑(List.length (buildAt D g k)) : Int) - (1 : Int))) default).Value = optV (some v))) (by kernel_rfl) (fun hc3 => ?_) (fun hc3 => ?_)
      · have hj : joins (buildAt D g k) (D.getD k 0) v = true := by
          unfold joins lastP; rw [el] at hc3; exact hc3
        have hpos : 0 < (buildAt D g k).length := by
          simp only [joins, Bool.and_eq_true, decide_eq_true_eq] at hj; omega
        refine good_run 24 (obs := [InK IntKind.i64 ((↑(List.length (buildAt D g k)) : Int) - (1 : Int)), InK IntKind.i64 ((↑k : Int) + (1 : Int)), (1 : Nat) = (1 : Nat) ∧ (0 : Int) ≤ (↑k : Int) + (1 : Int) ∧ (↑k : Int) + (1 : Int) < (↑(List.length D) : Int), (3 : Nat) = (3 : Nat) ∧ (0 : Int) ≤ (↑(List.length (buildAt D g k)) : Int) - (1 : Int) ∧ (↑(List.length (buildAt D g k)) : Int) - (1 : Int) < (↑(List.length (buildAt D g k)) : Int), (1 : Nat) = (1 : Nat) ∧ (1 : Nat) + (1 : Nat) ≤ (3 : Nat), InK IntKind.i64 ((↑k : Int) + (1 : Int))]) (by kernel_rfl) (by (first | omega | assumption | exact ⟨rfl, trivial⟩ | simp only [AllP, inK_iff, roomOK_iff, decide_eq_true_eq, Bool.and_eq_true, Bool.or_eq_true, Bool.not_eq_true', decide_eq_false_iff_not, and_true, true_and]; (first | omega | (and_intros <;> intros <;> (try and_intros) <;> first | omega | assumption | exact trivial)))) ?_
        refine good_backJ (k + 1) [List.length (buildAt D g k) = List.length (buildAt D g (k + (1 : Nat))) ∧ ∀ (i : Nat), i < List.length (buildAt D g k) → (fun j => if j = Int.toNat ((↑(List.length (buildAt D g k)) : Int) - (1 : Int)) then lay ((fun i => Piece.cells (List.getD (buildAt D g k) i default)) (Int.toNat ((↑(List.length (buildAt D g k)) : Int) - (1 : Int)))) (1 : Nat) [SV.int IntKind.i64 (List.getD D (Int.toNat ((↑k : Int) + (1 : Int))) (0 : Int))] else (fun i => Piece.cells (List.getD (buildAt D g k) i default)) j) i = (fun i => Piece.cells (List.getD (buildAt D g (k + (1 : Nat))) i default)) i, (↑k : Int) + (1 : Int) = (↑(k + (1 : Nat)) : Int), (↑(List.length D) : Int) = (↑(List.length D) : Int), List.length D = List.length D ∧ ∀ (i : Nat), i < List.length D → (fun i => [SV.int IntKind.i64 (List.getD D i (0 : Int))]) i = (fun i => [SV.int IntKind.i64 (List.getD D i (0 : Int))]) i, List.length D = List.length D ∧ ∀ (i : Nat), i < List.length D → (fun i => [SV.int IntKind.i64 (List.getD D i (0 : Int))]) i = (fun i => [SV.int IntKind.i64 (List.getD D i (0 : Int))]) i, SVle (SV.fn f caps) (SV.fn f caps)] (by kernel_rfl) (by kernel_rfl) ⟨?_, (by omega), rfl, ⟨rfl, fun _ _ => rfl⟩, ⟨rfl, fun _ _ => rfl⟩, SVle.refl _, trivial⟩ (by omega) (by show _ < _; omega)
        · rw [e, putP, if_pos hj]
          refine ⟨by rw [List.length_set], fun i hi => ?_⟩
          show (if i = _ then _ else _) = Piece.cells (List.getD (List.set _ _ _) _ _)
          rw [getD_set _ _ _ _ (by omega), el, ek]
          split
          · rename_i h; subst h; rfl
          · rfl
      · have hj : ¬ joins (buildAt D g k) (D.getD k 0) v = true := by
          rw [Bool.not_eq_true]
          unfold joins lastP; rw [el] at hc3; exact hc3
        refine good_run 23 (obs := [InK IntKind.i64 ((↑k : Int) + (1 : Int)), (1 : Nat) = (1 : Nat) ∧ (0 : Int) ≤ (↑k : Int) + (1 : Int) ∧ (↑k : Int) + (1 : Int) < (↑(List.length D) : Int), (47 : Nat) = (47 : Nat) ∧ (3 : Nat) = (3 : Nat) ∧ (3 : Nat) = (3 : Nat) ∧ roomOK (List.length (buildAt D g k) + (1 : Nat)) (24 : Nat), InK IntKind.i64 ((↑k : Int) + (1 : Int))]) (by kernel_rfl) (by (first | omega | assumption | exact ⟨rfl, trivial⟩ | simp only [AllP, inK_iff, roomOK_iff, decide_eq_true_eq, Bool.and_eq_true, Bool.or_eq_true, Bool.not_eq_true', decide_eq_false_iff_not, and_true, true_and]; (first | omega | (and_intros <;> intros <;> (try and_intros) <;> first | omega | assumption | exact trivial)))) ?_
        refine good_backJ (k + 1) [List.length (buildAt D g k) + (1 : Nat) = List.length (buildAt D g (k + (1 : Nat))) ∧ ∀ (i : Nat), i < List.length (buildAt D g k) + (1 : Nat) → joinGet (List.length (buildAt D g k)) (fun i => Piece.cells (List.getD (buildAt D g k) i default)) (cutRows (3 : Nat) [SV.int IntKind.i64 (List.getD D k (0 : Int)), SV.int IntKind.i64 (List.getD D (Int.toNat ((↑k : Int) + (1 : Int))) (0 : Int)), SV.int IntKind.i64 (optV (some v))]) i = (fun i => Piece.cells (List.getD (buildAt D g (k + (1 : Nat))) i default)) i, (↑k : Int) + (1 : Int) = (↑(k + (1 : Nat)) : Int), (↑(List.length D) : Int) = (↑(List.length D) : Int), List.length D = List.length D ∧ ∀ (i : Nat), i < List.length D → (fun i => [SV.int IntKind.i64 (List.getD D i (0 : Int))]) i = (fun i => [SV.int IntKind.i64 (List.getD D i (0 : Int))]) i, List.length D = List.length D ∧ ∀ (i : Nat), i < List.length D → (fun i => [SV.int IntKind.i64 (List.getD D i (0 : Int))]) i = (fun i => [SV.int IntKind.i64 (List.getD D i (0 : Int))]) i, SVle (SV.fn f caps) (SV.fn f caps)] (by kernel_rfl) (by kernel_rfl) ⟨?_, (by omega), rfl, ⟨rfl, fun _ _ => rfl⟩, ⟨rfl, fun _ _ => rfl⟩, SVle.refl _, trivial⟩ (by omega) (by show _ < _; omega)
        · rw [e, putP, if_neg hj]
          refine ⟨by rw [List.length_append]; rfl, fun i hi => ?_⟩
          unfold joinGet
          split
          · rename_i h; simp only; rw [getD_append_left _ _ _ h]
          · rename_i h
            have : i = (buildAt D g k).length := by omega
            subst this
            have hl : (buildAt D g k ++ [(⟨D.getD k 0, D.getD (k + 1) 0, v⟩ : Piece)]).getD (buildAt D g k).length default = ⟨D.getD k 0, D.getD (k + 1) 0, v⟩ := by
              rw [List.getD_eq_getElem?_getD, List.getElem?_append_right (Nat.le_refl _), Nat.sub_self]; rfl
            rw [Nat.sub_self, ek]
            show _ = Piece.cells (List.getD _ _ _)
            rw [hl]
            rfl
  · have hge : k = D.length := by simp only [decide_eq_false_iff_not] at hc1; omega
    subst hge
    refine good_run 2 (obs := []) (by kernel_rfl) trivial ?_
    refine good_leaveJ (by kernel_rfl) ?_
    refine good_run 9 (obs := []) (by kernel_rfl) trivial ?_
    refine good_cond (decide ((1024 : Int) < (↑(List.length (buildAt D g (List.length D))) : Int))) (by kernel_rfl) (fun hc2 => ?_) (fun hc2 => ?_)
    · simp only [decide_eq_true_eq] at hc2
      have : buildR D g = ([], 8) := by rw [buildR, if_pos (by omega)]
      rw [this]
      refine good_run 8 (obs := []) (by kernel_rfl) trivial ?_
      refine good_fin [(0 : Nat) = (0 : Nat), (8 : Int) = (8 : Int)] (by kernel_rfl) ⟨rfl, rfl, trivial⟩
    · simp only [decide_eq_false_iff_not] at hc2
      have : buildR D g = (buildAt D g D.length, 0) := by rw [buildR, if_neg (by omega)]
      rw [this]
      refine good_run 9 (obs := []) (by kernel_rfl) trivial ?_
      refine good_fin [List.length (buildAt D g (List.length D)) = List.length (buildAt D g (List.length D), (0 : Int)).fst ∧ ∀ (i : Nat), i < List.length (buildAt D g (List.length D)) → (fun i => Piece.cells (List.getD (buildAt D g (List.length D)) i default)) i = (fun i => Piece.cells (List.getD (buildAt D g (List.length D), (0 : Int)).fst i default)) i, (0 : Int) = (0 : Int)] (by kernel_rfl) ⟨⟨rfl, fun _ _ => rfl⟩, rfl, trivial⟩
end Go.Sx.T
