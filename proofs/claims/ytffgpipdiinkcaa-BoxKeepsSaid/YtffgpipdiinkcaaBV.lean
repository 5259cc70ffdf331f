/- Contracts of functions of the program, each proved by running its code symbolically (BV). -/
import Derived.Test.YtffgpipdiinkcaaBU
import Derived.Test.YtffgpipdiinkcaaBY
import Derived.Test.YtffgpipdiinkcaaSxSort
namespace Go.Sx.T
open Go Go.Proofs Go.Sx
set_option maxRecDepth 100000
set_option maxHeartbeats 4000000
set_option linter.unusedVariables false
set_option linter.unusedSimpArgs false
theorem s47 (e : TypeId) (l : List Int) (h : l.length ≤ 4000000000000000000) : SpecSort Try.prog 47 [] e 1 l.length (fun i => [.int .i64 (l.getD i 0)]) [] (fun i => [.int .i64 ((isort l).getD i 0)]) :=
  sort_spec lays189 (hasBody_of_slim Try.func47 F47_ok) e l h
theorem ext_ints {a b : List Int} (hl : a.length = b.length) (h : ∀ i, i < a.length → a.getD i 0 = b.getD i 0) : a = b := by
  apply List.ext_getElem hl
  intro i h1 h2
  have := h i h1
  rwa [getD_of_lt _ i h1, getD_of_lt _ i h2] at this
theorem s29 (a b : List Int) : Spec Try.prog 29 [ints a, ints b] (.bool (decide (a = b))) := by
  refine spec_len 0 rfl (hasBody_of_slim Try.func29 F29_ok) fun hlen => ?_
  refine spec_of_good mixed Try.func29 F29_ok (by kernel_rfl) ?_
  refine good_run 15 (obs := []) (by kernel_rfl) trivial ?_
  refine good_cond (!decide ((↑(List.length a) : Int) = (↑(List.length b) : Int))) (by kernel_rfl) (fun hc1 => ?_) (fun hc1 => ?_)
  · simp only [Bool.not_eq_true', decide_eq_false_iff_not] at hc1
    have : decide (a = b) = false := decide_eq_false fun e => hc1 (by rw [e])
    rw [this]
    refine good_run 7 (obs := []) (by kernel_rfl) trivial ?_
    refine good_fin [false = false] (by kernel_rfl) ⟨rfl, trivial⟩
  · simp only [Bool.not_eq_false', decide_eq_true_eq] at hc1
    have hab : a.length = b.length := by omega
    refine good_run 10 (obs := []) (by kernel_rfl) trivial ?_
    refine good_loopJ (fun k : Nat => ⟨[(13, .sv (.int .i64 (k))), (12, LV.sv (SV.int IntKind.i64 (↑(List.length a) : Int))), (0, LV.sv (SV.lst (1 : Nat) (List.length a) fun i => [SV.int IntKind.i64 (List.getD a i (0 : Int))])), (1, LV.sv (SV.lst (1 : Nat) (List.length b) fun i => [SV.int IntKind.i64 (List.getD b i (0 : Int))]))], []⟩) (fun k => k ≤ a.length ∧ ∀ i, i < k → a.getD i 0 = b.getD i 0) (fun k => a.length - k) (0) [(0 : Int) = (0 : Int), (↑(List.length a) : Int) = (↑(List.length a) : Int), List.length a = List.length a ∧ ∀ (i : Nat), i < List.length a → (fun i => [SV.int IntKind.i64 (List.getD a i (0 : Int))]) i = (fun i => [SV.int IntKind.i64 (List.getD a i (0 : Int))]) i, List.length b = List.length b ∧ ∀ (i : Nat), i < List.length b → (fun i => [SV.int IntKind.i64 (List.getD b i (0 : Int))]) i = (fun i => [SV.int IntKind.i64 (List.getD b i (0 : Int))]) i] (by kernel_rfl) (by kernel_rfl) ⟨rfl, rfl, ⟨rfl, fun _ _ => rfl⟩, ⟨rfl, fun _ _ => rfl⟩, trivial⟩ ⟨by omega, by omega⟩ ?_
    intro k hk
    refine good_run 6 (obs := []) (by kernel_rfl) trivial ?_
    refine good_cond (decide ((↑k : Int) < (↑(List.length a) : Int))) (by kernel_rfl) (fun hc2 => ?_) (fun hc2 => ?_)
    · have hlt : k < a.length := by simp only [decide_eq_true_eq] at hc2; omega
      refine good_run 22 (obs := [True → (1 : Nat) = (1 : Nat) ∧ (0 : Int) ≤ (↑k : Int) ∧ (↑k : Int) < (↑(List.length a) : Int), True → (1 : Nat) = (1 : Nat) ∧ (0 : Int) ≤ (↑k : Int) ∧ (↑k : Int) < (↑(List.length b) : Int)]) (by kernel_rfl) (by (first | omega | assumption | exact ⟨rfl, trivial⟩ | simp only [AllP, inK_iff, roomOK_iff, decide_eq_true_eq, Bool.and_eq_true, Bool.or_eq_true, Bool.not_eq_true', decide_eq_false_iff_not, and_true, true_and]; (first | omega | (and_intros <;> intros <;> (try and_intros) <;> first | omega | assumption | exact trivial)))) ?_
      refine good_cond (!decide (List.getD a k (0 : Int) = List.getD b k (0 : Int))) (by kernel_rfl) (fun hc3 => ?_) (fun hc3 => ?_)
      · simp only [Bool.not_eq_true', decide_eq_false_iff_not] at hc3
        have : decide (a = b) = false := decide_eq_false fun e => hc3 (by rw [e])
        rw [this]
        refine good_run 8 (obs := []) (by kernel_rfl) trivial ?_
        refine good_leaveJ (by kernel_rfl) ?_
        refine good_run 2 (obs := []) (by kernel_rfl) trivial ?_
        refine good_fin [false = false] (by kernel_rfl) ⟨rfl, trivial⟩
      · simp only [Bool.not_eq_false', decide_eq_true_eq] at hc3
        refine good_run 7 (obs := [InK IntKind.i64 ((↑k : Int) + (1 : Int))]) (by kernel_rfl) (by (first | omega | assumption | exact ⟨rfl, trivial⟩ | simp only [AllP, inK_iff, roomOK_iff, decide_eq_true_eq, Bool.and_eq_true, Bool.or_eq_true, Bool.not_eq_true', decide_eq_false_iff_not, and_true, true_and]; (first | omega | (and_intros <;> intros <;> (try and_intros) <;> first | omega | assumption | exact trivial)))) ?_
        refine good_backJ (k + 1) [(↑k : Int) + (1 : Int) = (↑(k + (1 : Nat)) : Int), (↑(List.length a) : Int) = (↑(List.length a) : Int), List.length a = List.length a ∧ ∀ (i : Nat), i < List.length a → (fun i => [SV.int IntKind.i64 (List.getD a i (0 : Int))]) i = (fun i => [SV.int IntKind.i64 (List.getD a i (0 : Int))]) i, List.length b = List.length b ∧ ∀ (i : Nat), i < List.length b → (fun i => [SV.int IntKind.i64 (List.getD b i (0 : Int))]) i = (fun i => [SV.int IntKind.i64 (List.getD b i (0 : Int))]) i] (by kernel_rfl) (by kernel_rfl) ⟨(by omega), rfl, ⟨rfl, fun _ _ => rfl⟩, ⟨rfl, fun _ _ => rfl⟩, trivial⟩ ?_ (by show _ < _; omega)
        · exact ⟨hlt, fun i hi => by
            rcases Nat.lt_or_ge i k with h | h
            · exact hk.2 i h
            · have : i = k := by omega
              subst this; exact hc3⟩
    · have hge : k = a.length := by simp only [decide_eq_false_iff_not] at hc2; have := hk.1; omega
      have : decide (a = b) = true := decide_eq_true (ext_ints hab fun i hi => hk.2 i (by omega))
      rw [this]
      refine good_run 2 (obs := []) (by kernel_rfl) trivial ?_
      refine good_leaveJ (by kernel_rfl) ?_
      refine good_run 7 (obs := []) (by kernel_rfl) trivial ?_
      refine good_fin [true = true] (by kernel_rfl) ⟨rfl, trivial⟩
def rowI (l : List Int) : Blk := .row 3 1 l.length true fun i => [.int .i64 (l.getD i 0)]
theorem join_ints (a b : List Int) (g : Nat → List SV) (hg : ∀ i, i < b.length → g i = [.int .i64 (b.getD i 0)]) : a.length + b.length = (a ++ b).length ∧ ∀ i, i < a.length + b.length → joinGet a.length (fun i => [SV.int .i64 (a.getD i 0)]) g i = [.int .i64 ((a ++ b).getD i 0)] := by
  refine ⟨by simp, fun i hi => ?_⟩
  unfold joinGet
  split
  · rename_i h; simp only; rw [getD_append_left _ _ _ h]
  · rename_i h
    rw [hg _ (by omega), List.getD_eq_getElem?_getD, List.getD_eq_getElem?_getD, List.getElem?_append_right (by omega)]
def uAt (l : List Box) (k j : Nat) : List Int := units (l.take k) ++ unitsC ((l.getD k default).Contents.take j)
theorem uAt_succ {l : List Box} {k j : Nat} (hj : j < (l.getD k default).Contents.length) : uAt l k (j + 1) = uAt l k j ++ [((l.getD k default).Contents.getD j default).Unit] := by
  unfold uAt unitsC
  rw [List.take_add_one, List.getElem?_eq_getElem hj, List.map_append, ← List.append_assoc, getD_of_lt _ _ hj]; rfl
theorem uAt_full {l : List Box} {k : Nat} (hk : k < l.length) : uAt l k (l.getD k default).Contents.length = units (l.take (k + 1)) := by
  rw [uAt, List.take_length, units_take l k hk]
theorem units_len : ∀ (l : List Box), (∀ b ∈ l, b.Contents.length ≤ 1000) → (units l).length ≤ 1000 * l.length
  | [], _ => by simp [units]
  | b :: r, h => by
    have h1 := units_len r fun b hb => h b (by simp [hb])
    have h2 := h b (by simp)
    simp only [units, List.length_append, unitsC, List.length_map, List.length_cons]
    omega
theorem uAt_len {l : List Box} {k j : Nat} (hk : k < l.length) (hl : ∀ b ∈ l, b.Contents.length ≤ 1000) : (uAt l k j).length ≤ 1000 * l.length := by
  have h1 := units_len (l.take (k + 1)) fun b hb => hl b (List.mem_of_mem_take hb)
  have h2 := units_take l k hk
  rw [h2] at h1
  simp only [List.length_append, unitsC, List.length_map, List.length_take, uAt] at h1 ⊢
  omega
theorem s28 (l : List Box) (h : l.length ≤ 100000) (hl : ∀ b ∈ l, b.Contents.length ≤ 1000) : Spec Try.prog 28 [boxes l] (ints (isort (units l))) := by
  refine spec_of_good mixed Try.func28 F28_ok (by kernel_rfl) ?_
  have hul := units_len l hl
  refine good_run 19 (obs := []) (by kernel_rfl) trivial ?_
  refine good_loopJ (fun k : Nat => ⟨[(10, .sv (.int .i64 (k))), (3, .own 0), (9, LV.sv (SV.int IntKind.i64 (↑(List.length l) : Int))), (8, LV.sv (SV.lst (5 : Nat) (List.length l) fun i => Box.cells (List.getD l i default)))], [rowI (units (l.take k))]⟩) (fun k => k ≤ l.length) (fun k => l.length - k) (0) [(0 : Nat) = (0 : Nat), (0 : Int) = (0 : Int), (↑(List.length l) : Int) = (↑(List.length l) : Int), List.length l = List.length l ∧ ∀ (i : Nat), i < List.length l → (fun i => Box.cells (List.getD l i default)) i = (fun i => Box.cells (List.getD l i default)) i] (by kernel_rfl) (by kernel_rfl) ⟨rfl, rfl, rfl, ⟨rfl, fun _ _ => rfl⟩, trivial⟩ (by omega) ?_
  intro k hk
  refine good_run 6 (obs := []) (by kernel_rfl) trivial ?_
  refine good_cond (decide ((↑k : Int) < (↑(List.length l) : Int))) (by kernel_rfl) (fun hc1 => ?_) (fun hc1 => ?_)
  · have hlt : k < l.length := by simp only [decide_eq_true_eq] at hc1; omega
    have hck := hl _ (getD_mem l default k hlt)
    refine good_run 20 (obs := [(5 : Nat) = (5 : Nat) ∧ (0 : Int) ≤ (↑k : Int) ∧ (↑k : Int) < (↑(List.length l) : Int), (0 : Nat) + (5 : Nat) ≤ (5 : Nat), (5 : Nat) = (5 : Nat) ∧ (0 : Nat) + (5 : Nat) ≤ (5 : Nat)]) (by kernel_rfl) (by (first | omega | assumption | exact ⟨rfl, trivial⟩ | simp only [AllP, inK_iff, roomOK_iff, decide_eq_true_eq, Bool.and_eq_true, Bool.or_eq_true, Bool.not_eq_true', decide_eq_false_iff_not, and_true, true_and]; (first | omega | (and_intros <;> intros <;> (try and_intros) <;> first | omega | assumption | exact trivial)))) ?_
    refine good_loopJ (fun j : Nat => ⟨[(17, .sv (.int .i64 (j))), (16, LV.sv (SV.int IntKind.i64 (↑(List.length (List.getD l k default).Contents) : Int))), (15, LV.sv (SV.lst (2 : Nat) (List.length (List.getD l k default).Contents) fun i => Content.cells (List.getD (List.getD l k default).Contents i default))), (10, LV.sv (SV.int IntKind.i64 (↑k : Int))), (3, LV.own (0 : Nat)), (9, LV.sv (SV.int IntKind.i64 (↑(List.length l) : Int))), (8, LV.sv (SV.lst (5 : Nat) (List.length l) fun i => Box.cells (List.getD l i default)))], [rowI (uAt l k j), Blk.cells (27 : Nat) true [SV.int IntKind.i64 (List.getD l k default).ID, SV.int IntKind.i64 (List.getD l k default).Width, SV.int IntKind.i64 (List.getD l k default).Room, SV.int IntKind.i64 (List.getD l k default).Climate, SV.lst (2 : Nat) (List.length (List.getD l k default).Contents) fun i => Content.cells (List.getD (List.getD l k default).Contents i default)]]⟩) (fun j => j ≤ (l.getD k default).Contents.length) (fun j => (l.getD k default).Contents.length - j) (0) [List.length (units (List.take k l)) = List.length (uAt l k (0 : Nat)) ∧ ∀ (i : Nat), i < List.length (units (List.take k l)) → (fun i => [SV.int IntKind.i64 (List.getD (units (List.take k l)) i (0 : Int))]) i = (fun i => [SV.int IntKind.i64 (List.getD (uAt l k (0 : Nat)) i (0 : Int))]) i, (List.getD l k default).ID = (List.getD l k default).ID, (List.getD l k default).Width = (List.getD l k default).Width, (List.getD l k default).Room = (List.getD l k default).Room, (List.getD l k default).Climate = (List.getD l k default).Climate, List.length (List.getD l k default).Contents = List.length (List.getD l k default).Contents ∧ ∀ (i : Nat), i < List.length (List.getD l k default).Contents → (fun i => Content.cells (List.getD (List.getD l k default).Contents i default)) i = (fun i => Content.cells (List.getD (List.getD l k default).Contents i default)) i, (0 : Int) = (0 : Int), (↑(List.length (List.getD l k default).Contents) : Int) = (↑(List.length (List.getD l k default).Contents) : Int), List.length (List.getD l k default).Contents = List.length (List.getD l k default).Contents ∧ ∀ (i : Nat), i < List.length (List.getD l k default).Contents → (fun i => Content.cells (List.getD (List.getD l k default).Contents i default)) i = (fun i => Content.cells (List.getD (List.getD l k default).Contents i default)) i, (↑k : Int) = (↑k : Int), (↑(List.length l) : Int) = (↑(List.length l) : Int), List.length l = List.length l ∧ ∀ (i : Nat), i < List.length l → (fun i => Box.cells (List.getD l i default)) i = (fun i => Box.cells (List.getD l i default)) i] (by kernel_rfl) (by kernel_rfl) ⟨?_, rfl, rfl, rfl, rfl, ⟨rfl, fun _ _ => rfl⟩, rfl, rfl, ⟨rfl, fun _ _ => rfl⟩, rfl, rfl, ⟨rfl, fun _ _ => rfl⟩, trivial⟩ (by omega) ?_
    · have e : uAt l k 0 = units (l.take k) := by simp [uAt, unitsC]
      rw [e]; exact ⟨rfl, fun _ _ => rfl⟩
    intro j hj
    have hle := uAt_len (j := j) hlt hl
    refine good_run 6 (obs := []) (by kernel_rfl) trivial ?_
    refine good_cond (decide ((↑j : Int) < (↑(List.length (List.getD l k default).Contents) : Int))) (by kernel_rfl) (fun hc2 => ?_) (fun hc2 => ?_)
    · have hjt : j < (l.getD k default).Contents.length := by simp only [decide_eq_true_eq] at hc2; omega
      refine good_run 26 (obs := [(2 : Nat) = (2 : Nat) ∧ (0 : Int) ≤ (↑j : Int) ∧ (↑j : Int) < (↑(List.length (List.getD l k default).Contents) : Int), (0 : Nat) + (2 : Nat) ≤ (2 : Nat), (2 : Nat) = (2 : Nat) ∧ (0 : Nat) + (2 : Nat) ≤ (2 : Nat), (3 : Nat) = (3 : Nat) ∧ (1 : Nat) = (1 : Nat) ∧ (1 : Nat) = (1 : Nat) ∧ roomOK (List.length (uAt l k j) + (1 : Nat)) (8 : Nat), InK IntKind.i64 ((↑j : Int) + (1 : Int))]) (by kernel_rfl) (by (first | omega | assumption | exact ⟨rfl, trivial⟩ | simp only [AllP, inK_iff, roomOK_iff, decide_eq_true_eq, Bool.and_eq_true, Bool.or_eq_true, Bool.not_eq_true', decide_eq_false_iff_not, and_true, true_and]; (first | omega | (and_intros <;> intros <;> (try and_intros) <;> first | omega | assumption | exact trivial)))) ?_
      refine good_backJ (j + 1) [List.length (uAt l k j) + (1 : Nat) = List.length (uAt l k (j + (1 : Nat))) ∧ ∀ (i : Nat), i < List.length (uAt l k j) + (1 : Nat) → joinGet (List.length (uAt l k j)) (fun i => [SV.int IntKind.i64 (List.getD (uAt l k j) i (0 : Int))]) (cutRows (1 : Nat) [SV.int IntKind.i64 (List.getD (List.getD l k default).Contents j default).Unit]) i = (fun i => [SV.int IntKind.i64 (List.getD (uAt l k (j + (1 : Nat))) i (0 : Int))]) i, (List.getD l k default).ID = (List.getD l k default).ID, (List.getD l k default).Width = (List.getD l k default).Width, (List.getD l k default).Room = (List.getD l k default).Room, (List.getD l k default).Climate = (List.getD l k default).Climate, List.length (List.getD l k default).Contents = List.length (List.getD l k default).Contents ∧ ∀ (i : Nat), i < List.length (List.getD l k default).Contents → (fun i => Content.cells (List.getD (List.getD l k default).Contents i default)) i = (fun i => Content.cells (List.getD (List.getD l k default).Contents i default)) i, (↑j : Int) + (1 : Int) = (↑(j + (1 : Nat)) : Int), (↑(List.length (List.getD l k default).Contents) : Int) = (↑(List.length (List.getD l k default).Contents) : Int), List.length (List.getD l k default).Contents = List.length (List.getD l k default).Contents ∧ ∀ (i : Nat), i < List.length (List.getD l k default).Contents → (fun i => Content.cells (List.getD (List.getD l k default).Contents i default)) i = (fun i => Content.cells (List.getD (List.getD l k default).Contents i default)) i, (↑k : Int) = (↑k : Int), (↑(List.length l) : Int) = (↑(List.length l) : Int), List.length l = List.length l ∧ ∀ (i : Nat), i < List.length l → (fun i => Box.cells (List.getD l i default)) i = (fun i => Box.cells (List.getD l i default)) i] (by kernel_rfl) (by kernel_rfl) ⟨?_, rfl, rfl, rfl, rfl, ⟨rfl, fun _ _ => rfl⟩, (by omega), rfl, ⟨rfl, fun _ _ => rfl⟩, rfl, rfl, ⟨rfl, fun _ _ => rfl⟩, trivial⟩ (by omega) (by show _ < _; omega)
      rw [uAt_succ hjt]
      exact join_ints _ [_] _ fun i hi => by
        have : i = 0 := by simpa using hi
        subst this; rfl
    · have hge : j = (l.getD k default).Contents.length := by simp only [decide_eq_false_iff_not] at hc2; omega
      subst hge
      refine good_run 2 (obs := []) (by kernel_rfl) trivial ?_
      refine good_leaveJ (by kernel_rfl) ?_
      refine good_run 7 (obs := [InK IntKind.i64 ((↑k : Int) + (1 : Int))]) (by kernel_rfl) (by (first | omega | assumption | exact ⟨rfl, trivial⟩ | simp only [AllP, inK_iff, roomOK_iff, decide_eq_true_eq, Bool.and_eq_true, Bool.or_eq_true, Bool.not_eq_true', decide_eq_false_iff_not, and_true, true_and]; (first | omega | (and_intros <;> intros <;> (try and_intros) <;> first | omega | assumption | exact trivial)))) ?_
      refine good_backJ (k + 1) [List.length (uAt l k (List.length (List.getD l k default).Contents)) = List.length (units (List.take (k + (1 : Nat)) l)) ∧ ∀ (i : Nat), i < List.length (uAt l k (List.length (List.getD l k default).Contents)) → (fun i => [SV.int IntKind.i64 (List.getD (uAt l k (List.length (List.getD l k default).Contents)) i (0 : Int))]) i = (fun i => [SV.int IntKind.i64 (List.getD (units (List.take (k + (1 : Nat)) l)) i (0 : Int))]) i, (↑k : Int) + (1 : Int) = (↑(k + (1 : Nat)) : Int), (↑(List.length l) : Int) = (↑(List.length l) : Int), List.length l = List.length l ∧ ∀ (i : Nat), i < List.length l → (fun i => Box.cells (List.getD l i default)) i = (fun i => Box.cells (List.getD l i default)) i] (by kernel_rfl) (by kernel_rfl) ⟨?_, (by omega), rfl, ⟨rfl, fun _ _ => rfl⟩, trivial⟩ (by omega) (by show _ < _; omega)
      rw [uAt_full hlt]; exact ⟨rfl, fun _ _ => rfl⟩
  · have hge : k = l.length := by simp only [decide_eq_false_iff_not] at hc1; omega
    subst hge
    refine good_run 2 (obs := []) (by kernel_rfl) trivial ?_
    refine good_leaveJ (by kernel_rfl) ?_
    refine good_run 4 (obs := []) (by kernel_rfl) trivial ?_
    refine good_sort (by kernel_rfl) (SVles.refl _) (SVles.refl _) (s47 ((3 : Nat)) (units (List.take (List.length l) l)) ?_) ?_
    · rw [List.take_length]; omega
    refine good_run 9 (obs := []) (by kernel_rfl) trivial ?_
    refine good_fin [List.length (units (List.take (List.length l) l)) = List.length (isort (units l)) ∧ ∀ (i : Nat), i < List.length (units (List.take (List.length l) l)) → (fun i => [SV.int IntKind.i64 (List.getD (isort (units (List.take (List.length l) l))) i (0 : Int))]) i = (fun i => [SV.int IntKind.i64 (List.getD (isort (units l)) i (0 : Int))]) i] (by kernel_rfl) ⟨?_, trivial⟩
    rw [List.take_length]
    exact ⟨(isort_length _).symm, fun _ _ => rfl⟩
end Go.Sx.T
