/- Contracts of functions of the program, each proved by running its code symbolically (CH). -/
import Derived.Test.YteecckjnbeambaaCG
import Derived.Test.YteecckjnbeambaaCY
import Derived.Test.YteecckjnbeambaaCKY
import Derived.Test.YteecckjnbeambaaCSY
import Derived.Test.YteecckjnbeambaaSxKeys
namespace Go.Sx.T
open Go Go.Proofs Go.Sx
set_option maxRecDepth 100000
set_option maxHeartbeats 4000000
set_option linter.unusedVariables false
set_option linter.unusedSimpArgs false
def whereL (l : List Move) (box day : Int) : Place × Int := if checkL l ≠ 0 then (⟨0, 0⟩, 1) else if okId box = true ∧ okDay day = true then (lastP (untilL l day) box, 0) else (⟨0, 0⟩, 2)
theorem s18 (l : List Move) (b d : Int) : Spec Try.prog 18 [moves l, .int .i64 b, .int .i64 d] (.tup [(whereL l b d).1.sv, .int .i64 (whereL l b d).2]) := by
  refine spec_of_good mixed Try.func18 F18_ok (by kernel_rfl) ?_
  refine good_run 11 (obs := []) (by kernel_rfl) trivial ?_
  refine good_call (c := True) (by kernel_rfl) (fun _ => SVles.refl _) (fun _ => s15 (l)) (by kernel_rfl) ?_
  refine good_run 4 (obs := []) (by kernel_rfl) trivial ?_
  refine good_cond (!decide (checkL l = (0 : Int))) (by kernel_rfl) (fun hc1 => ?_) (fun hc1 => ?_)
  · have e : whereL l b d = (⟨0, 0⟩, 1) := if_pos (by simpa using hc1)
    rw [e]
    refine good_run 10 (obs := [(2 : Nat) = (2 : Nat) ∧ (0 : Nat) + (2 : Nat) ≤ (2 : Nat)]) (by kernel_rfl) (by (first | omega | assumption | exact ⟨rfl, trivial⟩ | exact ⟨rfl, rfl, trivial⟩ | exact ⟨rfl, rfl, rfl, rfl, rfl, trivial⟩ | simp only [AllP, inK_iff, roomOK_iff, decide_eq_true_eq, Bool.and_eq_true, Bool.or_eq_true, Bool.not_eq_true', decide_eq_false_iff_not, and_true, true_and]; (first | omega | (and_intros <;> intros <;> (try and_intros) <;> first | omega | assumption | exact trivial)))) ?_
    refine good_fin [(0 : Int) = (0 : Int), (0 : Int) = (0 : Int), (1 : Int) = (1 : Int)] (by kernel_rfl) ⟨rfl, rfl, rfl, trivial⟩
  · have hc : checkL l = 0 := by simpa using hc1
    refine good_run 3 (obs := []) (by kernel_rfl) trivial ?_
    refine good_call (c := True) (by kernel_rfl) (fun _ => SVles.refl _) (fun _ => s37 (b)) (by kernel_rfl) ?_
    refine good_run 4 (obs := []) (by kernel_rfl) trivial ?_
    refine good_call (c := (!okId b) = false ∧ True) (by kernel_rfl) (fun _ => SVles.refl _) (fun _ => s38 (d)) (by kernel_rfl) ?_
    refine good_run 6 (obs := []) (by kernel_rfl) trivial ?_
    refine good_cond (!okId b || !okDay d) (by kernel_rfl) (fun hc2 => ?_) (fun hc2 => ?_)
    · have e : whereL l b d = (⟨0, 0⟩, 2) := by
        rw [whereL, if_neg (by simp [hc]), if_neg]
        simp only [Bool.or_eq_true, Bool.not_eq_true'] at hc2
        rintro ⟨h1, h2⟩
        rw [h1, h2] at hc2; simp at hc2
      rw [e]
      refine good_run 10 (obs := [(2 : Nat) = (2 : Nat) ∧ (0 : Nat) + (2 : Nat) ≤ (2 : Nat)]) (by kernel_rfl) (by (first | omega | assumption | exact ⟨rfl, trivial⟩ | exact ⟨rfl, rfl, trivial⟩ | exact ⟨rfl, rfl, rfl, rfl, rfl, trivial⟩ | simp only [AllP, inK_iff, roomOK_iff, decide_eq_true_eq, Bool.and_eq_true, Bool.or_eq_true, Bool.not_eq_true', decide_eq_false_iff_not, and_true, true_and]; (first | omega | (and_intros <;> intros <;> (try and_intros) <;> first | omega | assumption | exact trivial)))) ?_
      refine good_fin [(0 : Int) = (0 : Int), (0 : Int) = (0 : Int), (2 : Int) = (2 : Int)] (by kernel_rfl) ⟨rfl, rfl, rfl, trivial⟩
    · have e : whereL l b d = (lastP (untilL l d) b, 0) := by
        rw [whereL, if_neg (by simp [hc]), if_pos]
        simp only [Bool.or_eq_false_iff, Bool.not_eq_false'] at hc2
        exact hc2
      rw [e]
      refine good_run 6 (obs := []) (by kernel_rfl) trivial ?_
      refine good_callx [] [] (s39x l d hc) (by kernel_rfl) (by kernel_rfl) [] [List.length l = List.length l ∧ ∀ (i : Nat), i < List.length l → (fun i => Move.cells (List.getD l i default)) i = (fun i => Move.cells (List.getD l i default)) i, d = d] (by kernel_rfl) trivial (by kernel_rfl) ⟨⟨rfl, fun _ _ => rfl⟩, rfl, trivial⟩ ?_
      rintro _ ⟨m, c, rfl⟩
      refine ⟨trivial, ?_⟩
      skip
      refine good_ref 25 2 (Value.pointer (some { block := c, off := (0 : Nat) })) (by kernel_rfl) ?_
      have hz : zP = Value.agg #[.int .i64 (Int.ofNat 0), .int .i64 (Int.ofNat 0)] := rfl
      refine good_run 10 (obs := [Value.map (some m) = Value.map (some m), zP = Value.agg { toList := [Value.int IntKind.i64 (Int.ofNat (0 : Nat)), Value.int IntKind.i64 (Int.ofNat (0 : Nat))] }, (2 : Nat) = (2 : Nat) ∧ (0 : Nat) + (2 : Nat) ≤ (2 : Nat)]) (by kernel_rfl) (by (first | omega | assumption | exact ⟨rfl, trivial⟩ | exact ⟨rfl, rfl, trivial⟩ | exact ⟨rfl, rfl, rfl, rfl, rfl, trivial⟩ | simp only [AllP, inK_iff, roomOK_iff, decide_eq_true_eq, Bool.and_eq_true, Bool.or_eq_true, Bool.not_eq_true', decide_eq_false_iff_not, and_true, true_and]; (first | omega | (and_intros <;> intros <;> (try and_intros) <;> first | omega | assumption | exact trivial)))) ?_
      refine good_fin [(lastP (untilL l d) b).Kind = (lastP (untilL l d) b).Kind, (lastP (untilL l d) b).Of = (lastP (untilL l d) b).Of, (0 : Int) = (0 : Int)] (by kernel_rfl) ⟨rfl, rfl, rfl, trivial⟩
def atL (l : List Move) (p : Place) (day : Int) : List Int × Int := if checkL l ≠ 0 then ([], 1) else if placed p = true ∧ p.Kind ≠ 0 ∧ okDay day = true then (isort ((keysL (untilL l day)).filter fun k => decide (p = lastP (untilL l day) k)), 0) else ([], 2)
theorem s43 (e : TypeId) (l : List Int) (h : l.length ≤ 4000000000000000000) : SpecSort Try.prog 43 [] e 1 l.length (fun i => [.int .i64 (l.getD i 0)]) [] (fun i => [.int .i64 ((isort l).getD i 0)]) :=
  sort_spec lays189 (hasBody_of_slim Try.func43 F43_ok) e l h
def rowI (l : List Int) : Blk := .row 3 1 l.length true fun i => [.int .i64 (l.getD i 0)]
theorem putKey_nodup {ks : List Int} (h : ks.Nodup) (k : Int) : (putKey ks k).Nodup := by
  unfold putKey
  split
  · exact h
  · rename_i hn
    rw [List.nodup_append]
    exact ⟨h, by simp, fun a ha b hb e => by simp at hb; subst hb e; exact hn ha⟩
theorem putKey_len (ks : List Int) (k : Int) : (putKey ks k).length ≤ ks.length + 1 := by
  unfold putKey; split <;> simp
theorem keysL_nodup (l : List Move) : (keysL l).Nodup := by
  unfold keysL
  suffices h : ∀ ks : List Int, ks.Nodup → (l.foldl (fun ks m => putKey ks m.Box) ks).Nodup from h [] (by simp)
  induction l with
  | nil => exact fun ks h => h
  | cons m r ih => exact fun ks h => ih _ (putKey_nodup h _)
theorem keysL_len (l : List Move) : (keysL l).length ≤ l.length := by
  unfold keysL
  suffices h : ∀ ks : List Int, (l.foldl (fun ks m => putKey ks m.Box) ks).length ≤ ks.length + l.length by simpa using h []
  induction l with
  | nil => intro ks; simp
  | cons m r ih =>
    intro ks
    have h1 := ih (putKey ks m.Box)
    have h2 := putKey_len ks m.Box
    simp only [List.foldl_cons, List.length_cons]
    omega
theorem isort_eq {a b : List Int} (h : a.Perm b) : isort a = isort b := isort_of_perm h
theorem join_ints (a b : List Int) (g : Nat → List SV) (hg : ∀ i, i < b.length → g i = [.int .i64 (b.getD i 0)]) : a.length + b.length = (a ++ b).length ∧ ∀ i, i < a.length + b.length → joinGet a.length (fun i => [SV.int .i64 (a.getD i 0)]) g i = [.int .i64 ((a ++ b).getD i 0)] := by
  refine ⟨by simp, fun i hi => ?_⟩
  unfold joinGet
  split
  · rename_i h; simp only; rw [getD_append_left _ _ _ h]
  · rename_i h
    rw [hg _ (by omega), List.getD_eq_getElem?_getD, List.getD_eq_getElem?_getD, List.getElem?_append_right (by omega)]
theorem nodup_len : ∀ (a b : List Int), a.Nodup → (∀ x ∈ a, x ∈ b) → a.length ≤ b.length
  | [], b, _, _ => by simp
  | x :: a, b, h, hs => by
    have hx : x ∈ b := hs x (by simp)
    have h1 := nodup_len a (b.erase x) (List.nodup_cons.1 h).2 fun y hy => by
      have hne : y ≠ x := fun e => (List.nodup_cons.1 h).1 (e ▸ hy)
      exact (List.mem_erase_of_ne hne).2 (hs y (by simp [hy]))
    have h2 := List.length_erase_of_mem hx
    have h3 := List.length_pos_of_mem hx
    simp only [List.length_cons]
    omega
theorem s20 (l : List Move) (p : Place) (d : Int) : Spec Try.prog 20 [moves l, p.sv, .int .i64 d] (.tup [ints (atL l p d).1, .int .i64 (atL l p d).2]) := by
  refine spec_of_good mixed Try.func20 F20_ok (by kernel_rfl) ?_
  have heq := eq24
  refine good_run 12 (obs := []) (by kernel_rfl) trivial ?_
  refine good_call (c := True) (by kernel_rfl) (fun _ => SVles.refl _) (fun _ => s15 (l)) (by kernel_rfl) ?_
  refine good_run 4 (obs := []) (by kernel_rfl) trivial ?_
  refine good_cond (!decide (checkL l = (0 : Int))) (by kernel_rfl) (fun hc1 => ?_) (fun hc1 => ?_)
  · have e : atL l p d = ([], 1) := if_pos (by simpa using hc1)
    rw [e]
    refine good_run 9 (obs := []) (by kernel_rfl) trivial ?_
    refine good_fin [(0 : Nat) = (0 : Nat), (1 : Int) = (1 : Int)] (by kernel_rfl) ⟨rfl, rfl, trivial⟩
  · have hc : checkL l = 0 := by simpa using hc1
    have hll := ((checkL_iff l).1 hc).1
    have hkl := keysL_len (untilL l d)
    have hul := until_le l d
    have hkn := keysL_nodup (untilL l d)
    refine good_run 3 (obs := [(0 : Nat) + (2 : Nat) ≤ (2 : Nat)]) (by kernel_rfl) (by (first | omega | assumption | exact ⟨rfl, trivial⟩ | exact ⟨rfl, rfl, trivial⟩ | exact ⟨rfl, rfl, rfl, rfl, rfl, trivial⟩ | simp only [AllP, inK_iff, roomOK_iff, decide_eq_true_eq, Bool.and_eq_true, Bool.or_eq_true, Bool.not_eq_true', decide_eq_false_iff_not, and_true, true_and]; (first | omega | (and_intros <;> intros <;> (try and_intros) <;> first | omega | assumption | exact trivial)))) ?_
    refine good_call (c := True) (by kernel_rfl) (fun _ => SVles.refl _) (fun _ => s42 (p.Kind) (p.Of)) (by kernel_rfl) ?_
    refine good_run 9 (obs := []) (by kernel_rfl) trivial ?_
    refine good_call (c := (!placed { Kind := p.Kind, Of := p.Of } || decide (p.Kind = (0 : Int))) = false ∧ True) (by kernel_rfl) (fun _ => SVles.refl _) (fun _ => s38 (d)) (by kernel_rfl) ?_
    refine good_run 6 (obs := []) (by kernel_rfl) trivial ?_
    refine good_cond (!placed { Kind := p.Kind, Of := p.Of } || decide (p.Kind = (0 : Int)) || !okDay d) (by kernel_rfl) (fun hc2 => ?_) (fun hc2 => ?_)
    · have e : atL l p d = ([], 2) := by
        rw [atL, if_neg (by simp [hc]), if_neg]
        simp only [Bool.or_eq_true, Bool.not_eq_true', decide_eq_true_eq] at hc2
        rintro ⟨h1, h2, h3⟩
        rw [h1, h3] at hc2; simp [h2] at hc2
      rw [e]
      refine good_run 9 (obs := []) (by kernel_rfl) trivial ?_
      refine good_fin [(0 : Nat) = (0 : Nat), (2 : Int) = (2 : Int)] (by kernel_rfl) ⟨rfl, rfl, trivial⟩
    · have e : atL l p d = (isort ((keysL (untilL l d)).filter fun k => decide (p = lastP (untilL l d) k)), 0) := by
        rw [atL, if_neg (by simp [hc]), if_pos]
        simp only [Bool.or_eq_false_iff, Bool.not_eq_false', decide_eq_false_iff_not] at hc2
        exact ⟨hc2.1.1, hc2.1.2, hc2.2⟩
      rw [e]
      refine good_run 12 (obs := []) (by kernel_rfl) trivial ?_
      refine good_callx [] [] (s39x l d hc) (by kernel_rfl) (by kernel_rfl) [] [List.length l = List.length l ∧ ∀ (i : Nat), i < List.length l → (fun i => Move.cells (List.getD l i default)) i = (fun i => Move.cells (List.getD l i default)) i, d = d] (by kernel_rfl) trivial (by kernel_rfl) ⟨⟨rfl, fun _ _ => rfl⟩, rfl, trivial⟩ ?_
      rintro _ ⟨m, c, rfl⟩
      refine ⟨trivial, ?_⟩
      skip
      refine good_ref 31 2 (Value.pointer (some { block := c, off := (0 : Nat) })) (by kernel_rfl) ?_
      refine good_run 1 (obs := []) (by kernel_rfl) trivial ?_
      refine good_run 2 (obs := []) (by kernel_rfl) trivial ?_
      refine good_unname 34 1 (Value.map (some m)) (by kernel_rfl) ?_
      refine good_range ((68 : Nat)) ((1 : Nat)) (zP) (keysL (untilL l d)) (fun k => Place.sv (lastP (untilL l d) k)) (by kernel_rfl) (by kernel_rfl) (by kernel_rfl) ?_
      have hsel : ∀ (s : List Int) (x : Int), (s ++ [x]).filter (fun k => decide (p = lastP (untilL l d) k)) = if p = lastP (untilL l d) x then s.filter (fun k => decide (p = lastP (untilL l d) k)) ++ [x] else s.filter (fun k => decide (p = lastP (untilL l d) k)) := by
        intro s x
        rw [List.filter_append]
        by_cases h : p = lastP (untilL l d) x <;> simp [h]
      refine good_run 3 (obs := []) (by kernel_rfl) trivial ?_
      refine good_loopJ (fun seen : List Int => ⟨[(8, .own 4), (35, LV.ptr (3 : Nat) (0 : Nat)), (2000001, LV.isv (1 : Nat) (Value.map (some m))), (2000002, LV.isv (2 : Nat) (Value.pointer (some { block := c, off := (0 : Nat) }))), (4, LV.ptr (0 : Nat) (0 : Nat))], [Blk.cells (24 : Nat) true [SV.int IntKind.i64 p.Kind, SV.int IntKind.i64 p.Of], Blk.sem (fmapS zP (keysL (untilL l d)) fun k => Place.sv (lastP (untilL l d) k)), Blk.cells (70 : Nat) true [SV.val (Value.map (some m)), SV.int IntKind.i64 (dayL (untilL l d))], .sem (iterS (keysL (untilL l d)) (fun k => (lastP (untilL l d) k).sv) seen), rowI (seen.filter fun k => decide (p = lastP (untilL l d) k))]⟩) (fun seen => seen.Nodup ∧ ∀ x ∈ seen, x ∈ keysL (untilL l d)) (fun seen => (keysL (untilL l d)).length - seen.length) ([]) [p.Kind = p.Kind, p.Of = p.Of, (fmapS zP (keysL (untilL l d)) fun k => Place.sv (lastP (untilL l d) k)) = fmapS zP (keysL (untilL l d)) fun k => Place.sv (lastP (untilL l d) k), SVle (SV.val (Value.map (some m))) (SV.val (Value.map (some m))), dayL (untilL l d) = dayL (untilL l d), iterS (keysL (untilL l d)) (fun k => Place.sv (lastP (untilL l d) k)) [] = iterS (keysL (untilL l d)) (fun k => Place.sv (lastP (untilL l d) k)) [], (0 : Nat) = (0 : Nat), Value.map (some m) = Value.map (some m), Value.pointer (some { block := c, off := (0 : Nat) }) = Value.pointer (some { block := c, off := (0 : Nat) })] (by kernel_rfl) (by kernel_rfl) ⟨rfl, rfl, rfl, SVle.refl _, rfl, rfl, rfl, rfl, rfl, trivial⟩ ?_ ?_
      · exact ⟨by simp, by simp⟩
      rintro seen ⟨hs1, hs2⟩
      have hsl := nodup_len seen _ hs1 hs2
      have hfl := List.length_filter_le (fun k => decide (p = lastP (untilL l d) k)) seen
      refine good_run 2 (obs := []) (by kernel_rfl) trivial ?_
      refine good_next ((3 : Nat)) (keysL (untilL l d)) (fun k => Place.sv (lastP (untilL l d) k)) (seen) (by kernel_rfl) (by kernel_rfl) (fun x hx hn => ?_) (fun hn => ?_)
      · have hs1' : (seen ++ [x]).Nodup := by
          rw [List.nodup_append]
          exact ⟨hs1, by simp, fun a ha c hc e => by simp at hc; subst hc e; exact hn ha⟩
        have hs2' : ∀ y ∈ seen ++ [x], y ∈ keysL (untilL l d) := fun y hy => by
          rcases List.mem_append.1 hy with hy | hy
          · exact hs2 y hy
          · simp at hy; subst hy; exact hx
        have hl' := nodup_len _ _ hs1' hs2'
        rw [List.length_append, List.length_singleton] at hl'
        have hms : (keysL (untilL l d)).length - (seen ++ [x]).length < (keysL (untilL l d)).length - seen.length := by
          rw [List.length_append, List.length_singleton]; omega
        refine good_run 4 (obs := []) (by kernel_rfl) trivial ?_
        refine good_cond true (by kernel_rfl) (fun _ => ?_) (fun h => nomatch h)
        refine good_run 4 (obs := []) (by kernel_rfl) trivial ?_
        refine good_entry ((3 : Nat)) (keysL (untilL l d)) (fun k => Place.sv (lastP (untilL l d) k)) (seen) (x) (by kernel_rfl) (by kernel_rfl) ?_
        refine good_run 14 (obs := [(2 : Nat) = (2 : Nat) ∧ (0 : Nat) + (2 : Nat) ≤ (2 : Nat), (0 : Nat) + (2 : Nat) ≤ (2 : Nat), (0 : Nat) + (2 : Nat) ≤ (2 : Nat), EqOK Try.prog (24 : Nat) (2 : Nat) ∧ (2 : Nat) = (2 : Nat)]) (by kernel_rfl) (by (first | omega | assumption | exact ⟨rfl, trivial⟩ | exact ⟨rfl, rfl, trivial⟩ | exact ⟨rfl, rfl, rfl, rfl, rfl, trivial⟩ | simp only [AllP, inK_iff, roomOK_iff, decide_eq_true_eq, Bool.and_eq_true, Bool.or_eq_true, Bool.not_eq_true', decide_eq_false_iff_not, and_true, true_and]; (first | omega | (and_intros <;> intros <;> (try and_intros) <;> first | omega | assumption | exact trivial)))) ?_
        refine good_cond (false ^^ decide ([p.Kind, p.Of] = [(lastP (untilL l d) x).Kind, (lastP (untilL l d) x).Of])) (by kernel_rfl) (fun hc3 => ?_) (fun hc3 => ?_)
        · have hp : p = lastP (untilL l d) x := (place_ints _ _).1 (by simpa using hc3)
          refine good_run 9 (obs := [(3 : Nat) = (3 : Nat) ∧ (1 : Nat) = (1 : Nat) ∧ (1 : Nat) = (1 : Nat) ∧ roomOK (List.length (List.filter (fun k => decide (p = lastP (untilL l d) k)) seen) + (1 : Nat)) (8 : Nat)]) (by kernel_rfl) (by (first | omega | assumption | exact ⟨rfl, trivial⟩ | exact ⟨rfl, rfl, trivial⟩ | exact ⟨rfl, rfl, rfl, rfl, rfl, trivial⟩ | simp only [AllP, inK_iff, roomOK_iff, decide_eq_true_eq, Bool.and_eq_true, Bool.or_eq_true, Bool.not_eq_true', decide_eq_false_iff_not, and_true, true_and]; (first | omega | (and_intros <;> intros <;> (try and_intros) <;> first | omega | assumption | exact trivial)))) ?_
          refine good_backJ (seen ++ [x]) [p.Kind = p.Kind, p.Of = p.Of, (fmapS zP (keysL (untilL l d)) fun k => Place.sv (lastP (untilL l d) k)) = fmapS zP (keysL (untilL l d)) fun k => Place.sv (lastP (untilL l d) k), SVle (SV.val (Value.map (some m))) (SV.val (Value.map (some m))), dayL (untilL l d) = dayL (untilL l d), iterS (keysL (untilL l d)) (fun k => Place.sv (lastP (untilL l d) k)) (seen ++ [x]) = iterS (keysL (untilL l d)) (fun k => Place.sv (lastP (untilL l d) k)) (seen ++ [x]), List.length (List.filter (fun k => decide (p = lastP (untilL l d) k)) seen) + (1 : Nat) = List.length (List.filter (fun k => decide (p = lastP (untilL l d) k)) (seen ++ [x])) ∧ ∀ (i : Nat), i < List.length (List.filter (fun k => decide (p = lastP (untilL l d) k)) seen) + (1 : Nat) → joinGet (List.length (List.filter (fun k => decide (p = lastP (untilL l d) k)) seen)) (fun i => [SV.int IntKind.i64 (List.getD (List.filter (fun k => decide (p = lastP (untilL l d) k)) seen) i (0 : Int))]) (cutRows (1 : Nat) [SV.int IntKind.i64 x]) i = (fun i => [SV.int IntKind.i64 (List.getD (List.filter (fun k => decide (p = lastP (untilL l d) k)) (seen ++ [x])) i (0 : Int))]) i, Value.map (some m) = Value.map (some m), Value.pointer (some { block := c, off := (0 : Nat) }) = Value.pointer (some { block := c, off := (0 : Nat) })] (by kernel_rfl) (by kernel_rfl) ⟨rfl, rfl, rfl, SVle.refl _, rfl, rfl, ?_, rfl, rfl, trivial⟩ ⟨by omega, by assumption⟩ (by show _ < _; omega)
          · show _ = ((seen ++ [x]).filter _).length ∧ _
            rw [hsel, if_pos hp]
            exact join_ints _ [x] _ fun i hi => by
              have : i = 0 := by simpa using hi
              subst this; rfl
        · have hp : ¬ p = lastP (untilL l d) x := fun h => by rw [← h] at hc3; simp at hc3
          refine good_run 2 (obs := []) (by kernel_rfl) trivial ?_
          refine good_backJ (seen ++ [x]) [p.Kind = p.Kind, p.Of = p.Of, (fmapS zP (keysL (untilL l d)) fun k => Place.sv (lastP (untilL l d) k)) = fmapS zP (keysL (untilL l d)) fun k => Place.sv (lastP (untilL l d) k), SVle (SV.val (Value.map (some m))) (SV.val (Value.map (some m))), dayL (untilL l d) = dayL (untilL l d), iterS (keysL (untilL l d)) (fun k => Place.sv (lastP (untilL l d) k)) (seen ++ [x]) = iterS (keysL (untilL l d)) (fun k => Place.sv (lastP (untilL l d) k)) (seen ++ [x]), List.length (List.filter (fun k => decide (p = lastP (untilL l d) k)) seen) = List.length (List.filter (fun k => decide (p = lastP (untilL l d) k)) (seen ++ [x])) ∧ ∀ (i : Nat), i < List.length (List.filter (fun k => decide (p = lastP (untilL l d) k)) seen) → (fun i => [SV.int IntKind.i64 (List.getD (List.filter (fun k => decide (p = lastP (untilL l d) k)) seen) i (0 : Int))]) i = (fun i => [SV.int IntKind.i64 (List.getD (List.filter (fun k => decide (p = lastP (untilL l d) k)) (seen ++ [x])) i (0 : Int))]) i, Value.map (some m) = Value.map (some m), Value.pointer (some { block := c, off := (0 : Nat) }) = Value.pointer (some { block := c, off := (0 : Nat) })] (by kernel_rfl) (by kernel_rfl) ⟨rfl, rfl, rfl, SVle.refl _, rfl, rfl, ?_, rfl, rfl, trivial⟩ ⟨by omega, by assumption⟩ (by show _ < _; omega)
          · show _ = ((seen ++ [x]).filter _).length ∧ _
            rw [hsel, if_neg hp]
            exact ⟨rfl, fun _ _ => rfl⟩
      · have hp : seen.Perm (keysL (untilL l d)) := (List.perm_ext_iff_of_nodup hs1 hkn).2 fun x => ⟨hs2 x, hn x⟩
        refine good_run 4 (obs := []) (by kernel_rfl) trivial ?_
        refine good_cond false (by kernel_rfl) (fun h => nomatch h) (fun _ => ?_)
        refine good_run 2 (obs := []) (by kernel_rfl) trivial ?_
        refine good_leaveJ (by kernel_rfl) ?_
        refine good_run 4 (obs := []) (by kernel_rfl) trivial ?_
        refine good_sort (by kernel_rfl) (SVles.refl _) (SVles.refl _) (s43 ((3 : Nat)) (List.filter (fun k => decide (p = lastP (untilL l d) k)) seen) (by (first | omega | assumption | exact ⟨rfl, trivial⟩ | exact ⟨rfl, rfl, trivial⟩ | exact ⟨rfl, rfl, rfl, rfl, rfl, trivial⟩ | simp only [AllP, inK_iff, roomOK_iff, decide_eq_true_eq, Bool.and_eq_true, Bool.or_eq_true, Bool.not_eq_true', decide_eq_false_iff_not, and_true, true_and]; (first | omega | (and_intros <;> intros <;> (try and_intros) <;> first | omega | assumption | exact trivial))))) ?_
        refine good_run 10 (obs := []) (by kernel_rfl) trivial ?_
        refine good_fin [List.length (List.filter (fun k => decide (p = lastP (untilL l d) k)) seen) = List.length (isort (List.filter (fun k => decide (p = lastP (untilL l d) k)) (keysL (untilL l d))), (0 : Int)).fst ∧ ∀ (i : Nat), i < List.length (List.filter (fun k => decide (p = lastP (untilL l d) k)) seen) → (fun i => [SV.int IntKind.i64 (List.getD (isort (List.filter (fun k => decide (p = lastP (untilL l d) k)) seen)) i (0 : Int))]) i = (fun i => [SV.int IntKind.i64 (List.getD (isort (List.filter (fun k => decide (p = lastP (untilL l d) k)) (keysL (untilL l d))), (0 : Int)).fst i (0 : Int))]) i, (0 : Int) = (0 : Int)] (by kernel_rfl) ⟨?_, rfl, trivial⟩
        rw [isort_eq (hp.filter _)]
        exact ⟨by show _ = (isort _).length; rw [isort_length]; exact (hp.filter _).length_eq, fun _ _ => rfl⟩
end Go.Sx.T
