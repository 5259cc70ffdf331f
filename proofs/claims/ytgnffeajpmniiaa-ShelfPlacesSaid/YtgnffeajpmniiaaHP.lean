/- Contracts of functions of the program, each proved by running its code symbolically (HP). -/
import Derived.Test.YtgnffeajpmniiaaHO
namespace Go.Sx.T
open Go Go.Proofs Go.Sx
set_option maxRecDepth 100000
set_option maxHeartbeats 4000000
set_option linter.unusedVariables false
set_option linter.unusedSimpArgs false
theorem _root_.Go.Sx.Spec.of_args {P : Program} {f : FuncId} {args args' : List SV} {r : SV} (hs : Spec P f args' r) (h : SVles args args') : Spec P f args r := by
  obtain ⟨h1, h2⟩ := svles_get args args' h
  refine ⟨hs.1, fun w M vs hM hl hd => hs.2 w M vs hM (h1 ▸ hl) fun i s v hi hv => ?_⟩
  obtain ⟨s0, hs0, hle⟩ := h2 i s hi
  exact hle _ _ _ (hd i s0 v hs0 hv)
theorem findP_hit (id : Int) : ∀ (s : List Std) (i p : Nat) (k : Nat), p < s.length → (∀ j, j < p → id ∉ (s.getD j default).Boxes) → findI (s.getD p default).Boxes (eqK id) = k → findP id i s = (((i + p : Nat) : Int), (k : Int))
  | [], i, p, k, h, _, _ => by simp at h
  | x :: r, i, p, k, h, hn, hk => by
    cases p with
    | zero =>
      have hk' : findI x.Boxes (eqK id) = k := by simpa using hk
      rw [findP, if_neg (by omega), hk']; rfl
    | succ p =>
      have h0 := hn 0 (by omega)
      rcases findI_eqK x.Boxes id with ⟨h1, h2⟩ | ⟨m, hm, h1, h2, h3⟩
      · rw [findP, if_pos (by omega), findP_hit id r (i + 1) p k (by simpa using h) (fun j hj => by simpa using hn (j + 1) (by omega)) (by simpa using hk)]
        congr 2; omega
      · exact absurd h3 (by simpa using h0)
theorem s21 (l : List Shf) (b : List Box) (s : List Std) (id : Int) (hs : s.length ≤ 100000) (hx : ∀ y ∈ s, y.Boxes.length ≤ 100000) :
    Spec Try.prog 21 [shfs l, boxes b, stds s, .int .i64 id] (.tup [.int .i64 (findR l b s id).1, .int .i64 (findR l b s id).2.1, .int .i64 (findR l b s id).2.2]) := by
  refine spec_of_good mixed Try.func21 F21_ok (by kernel_rfl) ?_
  by_cases h : checkS l b s = 0
  · have hR := right_of h
    have wb := hR.wb
    have s16a : Spec Try.prog 16 [shfs l, boxes b, stds s] (.int .i64 0) := h ▸ s16 l b s hs hx
    have e0 : findR l b s id = if isK b Box.ID id = false then (0, 0, 7) else if (findP id 0 s).1 < 0 then (0, 0, 11)
      else ((s.getD (findP id 0 s).1.toNat default).Shelf, widthI b ((s.getD (findP id 0 s).1.toNat default).Boxes.take (findP id 0 s).2.toNat), 0) := by rw [findR, if_neg (fun g => g h)]
    rcases isK_cases b Box.ID id with ⟨g1, _, g3, _⟩ | ⟨m, hm, g1, g2, g3, _⟩
    · have s51a : Spec Try.prog 51 [boxes b, .int .i64 id] (.int .i64 (-1)) := g3 ▸ s51a b id
      have e : findR l b s id = (0, 0, 7) := by rw [e0, if_pos g1]
      rw [e]
      refine good_run 13 (obs := []) (by kernel_rfl) trivial ?_
      refine good_call (c := True) (by kernel_rfl) (fun _ => SVles.refl _) (fun _ => s16a) (by kernel_rfl) ?_
      refine good_run 3 (obs := []) (by kernel_rfl) trivial ?_
      refine good_cond false (by kernel_rfl) (fun h => nomatch h) (fun _ => ?_)
      refine good_run 6 (obs := []) (by kernel_rfl) trivial ?_
      refine good_call (c := True) (by kernel_rfl) (fun _ => SVles.refl _) (fun _ => s51a) (by kernel_rfl) ?_
      refine good_run 3 (obs := []) (by kernel_rfl) trivial ?_
      refine good_cond true (by kernel_rfl) (fun _ => ?_) (fun h => nomatch h)
      refine good_run 9 (obs := []) (by kernel_rfl) trivial ?_
      refine good_fin [(0 : Int) = (0 : Int), (0 : Int) = (0 : Int), (7 : Int) = (7 : Int)] (by kernel_rfl) ⟨rfl, rfl, rfl, trivial⟩
    · have s51a : Spec Try.prog 51 [boxes b, .int .i64 id] (.int .i64 (m : Int)) := g3 ▸ s51a b id
      rw [if_neg (by rw [g1]; decide)] at e0
      refine good_run 13 (obs := []) (by kernel_rfl) trivial ?_
      refine good_call (c := True) (by kernel_rfl) (fun _ => SVles.refl _) (fun _ => s16a) (by kernel_rfl) ?_
      refine good_run 3 (obs := []) (by kernel_rfl) trivial ?_
      refine good_cond false (by kernel_rfl) (fun h => nomatch h) (fun _ => ?_)
      refine good_run 6 (obs := []) (by kernel_rfl) trivial ?_
      refine good_call (c := True) (by kernel_rfl) (fun _ => SVles.refl _) (fun _ => s51a) (by kernel_rfl) ?_
      refine good_run 3 (obs := []) (by kernel_rfl) trivial ?_
      refine good_cond (decide ((↑m : Int) < (0 : Int))) (by kernel_rfl) (fun hc1 => ?_) (fun hc1 => ?_)
      · simp only [decide_eq_true_eq] at hc1
        omega
      refine good_run 10 (obs := []) (by kernel_rfl) trivial ?_
      refine good_loopJ (fun p : Nat => ⟨[(26, .sv (.int .i64 (p))), (25, LV.sv (SV.int IntKind.i64 (↑(List.length s) : Int))), (24, LV.sv (SV.lst (2 : Nat) (List.length s) fun i => Std.cells (List.getD s i default))), (1, LV.sv (SV.lst (5 : Nat) (List.length b) fun i => Box.cells (List.getD b i default))), (3, LV.sv (SV.int IntKind.i64 id))], []⟩) (fun p => p ≤ s.length ∧ ∀ j, j < p → id ∉ (s.getD j default).Boxes) (fun p => s.length - p) (0) [(0 : Int) = (0 : Int), (↑(List.length s) : Int) = (↑(List.length s) : Int), List.length s = List.length s ∧ ∀ (i : Nat), i < List.length s → (fun i => Std.cells (List.getD s i default)) i = (fun i => Std.cells (List.getD s i default)) i, List.length b = List.length b ∧ ∀ (i : Nat), i < List.length b → (fun i => Box.cells (List.getD b i default)) i = (fun i => Box.cells (List.getD b i default)) i, id = id] (by kernel_rfl) (by kernel_rfl) ⟨rfl, rfl, ⟨rfl, fun _ _ => rfl⟩, ⟨rfl, fun _ _ => rfl⟩, rfl, trivial⟩ ⟨by omega, by omega⟩ ?_
      intro p hp
      refine good_run 6 (obs := []) (by kernel_rfl) trivial ?_
      refine good_cond (decide ((↑p : Int) < (↑(List.length s) : Int))) (by kernel_rfl) (fun hc2 => ?_) (fun hc2 => ?_)
      · have hpl : p < s.length := by simp only [decide_eq_true_eq] at hc2; omega
        have hxp := hx _ (getD_mem s default p hpl)
        have hon := (hR.on _ (getD_mem s default p hpl)).2.2.2
        refine good_run 20 (obs := [(2 : Nat) = (2 : Nat) ∧ (0 : Int) ≤ (↑p : Int) ∧ (↑p : Int) < (↑(List.length s) : Int), (0 : Nat) + (2 : Nat) ≤ (2 : Nat), (2 : Nat) = (2 : Nat) ∧ (0 : Nat) + (2 : Nat) ≤ (2 : Nat)]) (by kernel_rfl) (by (first | omega | assumption | exact ⟨rfl, trivial⟩ | simp only [AllP, inK_iff, roomOK_iff, decide_eq_true_eq, Bool.and_eq_true, Bool.or_eq_true, Bool.not_eq_true', decide_eq_false_iff_not, and_true, true_and]; (first | omega | (and_intros <;> intros <;> (try and_intros) <;> first | omega | assumption | exact trivial)))) ?_
        refine good_loopJ (fun k : Nat => ⟨[(33, .sv (.int .i64 (k))), (32, LV.sv (SV.int IntKind.i64 (↑(List.length (List.getD s p default).Boxes) : Int))), (31, LV.sv (SV.lst (1 : Nat) (List.length (List.getD s p default).Boxes) fun i => [SV.int IntKind.i64 (List.getD (List.getD s p default).Boxes i (0 : Int))])), (12, LV.ptr (0 : Nat) (0 : Nat)), (26, LV.sv (SV.int IntKind.i64 (↑p : Int))), (25, LV.sv (SV.int IntKind.i64 (↑(List.length s) : Int))), (24, LV.sv (SV.lst (2 : Nat) (List.length s) fun i => Std.cells (List.getD s i default))), (1, LV.sv (SV.lst (5 : Nat) (List.length b) fun i => Box.cells (List.getD b i default))), (3, LV.sv (SV.int IntKind.i64 id))], [Blk.cells (47 : Nat) false [SV.int IntKind.i64 (List.getD s p default).Shelf, SV.lst (1 : Nat) (List.length (List.getD s p default).Boxes) fun i => [SV.int IntKind.i64 (List.getD (List.getD s p default).Boxes i (0 : Int))]]]⟩) (fun k => k ≤ (s.getD p default).Boxes.length ∧ ∀ q, q < k → (s.getD p default).Boxes.getD q 0 ≠ id) (fun k => (s.getD p default).Boxes.length - k) (0) [(List.getD s p default).Shelf = (List.getD s p default).Shelf, List.length (List.getD s p default).Boxes = List.length (List.getD s p default).Boxes ∧ ∀ (i : Nat), i < List.length (List.getD s p default).Boxes → (fun i => [SV.int IntKind.i64 (List.getD (List.getD s p default).Boxes i (0 : Int))]) i = (fun i => [SV.int IntKind.i64 (List.getD (List.getD s p default).Boxes i (0 : Int))]) i, (0 : Int) = (0 : Int), (↑(List.length (List.getD s p default).Boxes) : Int) = (↑(List.length (List.getD s p default).Boxes) : Int), List.length (List.getD s p default).Boxes = List.length (List.getD s p default).Boxes ∧ ∀ (i : Nat), i < List.length (List.getD s p default).Boxes → (fun i => [SV.int IntKind.i64 (List.getD (List.getD s p default).Boxes i (0 : Int))]) i = (fun i => [SV.int IntKind.i64 (List.getD (List.getD s p default).Boxes i (0 : Int))]) i, (↑p : Int) = (↑p : Int), (↑(List.length s) : Int) = (↑(List.length s) : Int), List.length s = List.length s ∧ ∀ (i : Nat), i < List.length s → (fun i => Std.cells (List.getD s i default)) i = (fun i => Std.cells (List.getD s i default)) i, List.length b = List.length b ∧ ∀ (i : Nat), i < List.length b → (fun i => Box.cells (List.getD b i default)) i = (fun i => Box.cells (List.getD b i default)) i, id = id] (by kernel_rfl) (by kernel_rfl) ⟨rfl, ⟨rfl, fun _ _ => rfl⟩, rfl, rfl, ⟨rfl, fun _ _ => rfl⟩, rfl, rfl, ⟨rfl, fun _ _ => rfl⟩, ⟨rfl, fun _ _ => rfl⟩, rfl, trivial⟩ ⟨by omega, by omega⟩ ?_
        intro k hk
        refine good_run 6 (obs := []) (by kernel_rfl) trivial ?_
        refine good_cond (decide ((↑k : Int) < (↑(List.length (List.getD s p default).Boxes) : Int))) (by kernel_rfl) (fun hc3 => ?_) (fun hc3 => ?_)
        · have hkl : k < (s.getD p default).Boxes.length := by simp only [decide_eq_true_eq] at hc3; omega
          refine good_run 19 (obs := [(1 : Nat) = (1 : Nat) ∧ (0 : Int) ≤ (↑k : Int) ∧ (↑k : Int) < (↑(List.length (List.getD s p default).Boxes) : Int)]) (by kernel_rfl) (by (first | omega | assumption | exact ⟨rfl, trivial⟩ | simp only [AllP, inK_iff, roomOK_iff, decide_eq_true_eq, Bool.and_eq_true, Bool.or_eq_true, Bool.not_eq_true', decide_eq_false_iff_not, and_true, true_and]; (first | omega | (and_intros <;> intros <;> (try and_intros) <;> first | omega | assumption | exact trivial)))) ?_
          refine good_cond (decide (List.getD (List.getD s p default).Boxes k (0 : Int) = id)) (by kernel_rfl) (fun hc4 => ?_) (fun hc4 => ?_)
          · simp only [decide_eq_true_eq] at hc4
            have hfi : findI (s.getD p default).Boxes (eqK id) = k := findI_hit _ (eqK id) k hkl (show decide ((s.getD p default).Boxes.getD k 0 = id) = true from decide_eq_true hc4) (fun j hj => show decide ((s.getD p default).Boxes.getD j 0 = id) = false from decide_eq_false (hk.2 j hj))
            have hfp := findP_hit id s 0 p k hpl hp.2 hfi
            rw [Nat.zero_add] at hfp
            have e : findR l b s id = ((s.getD p default).Shelf, widthI b ((s.getD p default).Boxes.take k), 0) := by
              rw [e0, hfp, if_neg (by show ¬ (p : Int) < 0; omega)]
              rfl
            rw [e]
            have s47a := (s47 b ((s.getD p default).Boxes.take k) wb (fun q hq => (hon q (List.mem_of_mem_take hq)).1) (by rw [List.length_take]; omega)).of_args (SVles.cons (SVle.refl (boxes b)) (SVles.cons (take_ints (s.getD p default).Boxes k (by omega)) (SVles.refl [])))
            refine good_run 9 (obs := [True → (1 : Nat) = (1 : Nat) ∧ (0 : Int) ≤ (0 : Int) ∧ (0 : Int) ≤ (↑k : Int) ∧ (↑k : Int) ≤ (↑(List.length (List.getD s p default).Boxes) : Int)]) (by kernel_rfl) (by (first | omega | assumption | exact ⟨rfl, trivial⟩ | simp only [AllP, inK_iff, roomOK_iff, decide_eq_true_eq, Bool.and_eq_true, Bool.or_eq_true, Bool.not_eq_true', decide_eq_false_iff_not, and_true, true_and]; (first | omega | (and_intros <;> intros <;> (try and_intros) <;> first | omega | assumption | exact trivial)))) ?_
            refine good_call (c := True) (by kernel_rfl) (fun _ => SVles.refl _) (fun _ => s47a) (by kernel_rfl) ?_
            refine good_run 8 (obs := []) (by kernel_rfl) trivial ?_
            refine good_leaveJ (by kernel_rfl) ?_
            refine good_run 3 (obs := []) (by kernel_rfl) trivial ?_
            refine good_leaveJ (by kernel_rfl) ?_
            refine good_run 2 (obs := []) (by kernel_rfl) trivial ?_
            refine good_fin [(List.getD s p default).Shelf = (List.getD s p default).Shelf, widthI b (List.take k (List.getD s p default).Boxes) = widthI b (List.take k (List.getD s p default).Boxes), (0 : Int) = (0 : Int)] (by kernel_rfl) ⟨rfl, rfl, rfl, trivial⟩
          · simp only [decide_eq_false_iff_not] at hc4
            refine good_run 7 (obs := [InK IntKind.i64 ((↑k : Int) + (1 : Int))]) (by kernel_rfl) (by (first | omega | assumption | exact ⟨rfl, trivial⟩ | simp only [AllP, inK_iff, roomOK_iff, decide_eq_true_eq, Bool.and_eq_true, Bool.or_eq_true, Bool.not_eq_true', decide_eq_false_iff_not, and_true, true_and]; (first | omega | (and_intros <;> intros <;> (try and_intros) <;> first | omega | assumption | exact trivial)))) ?_
            refine good_backJ (k + 1) [(List.getD s p default).Shelf = (List.getD s p default).Shelf, List.length (List.getD s p default).Boxes = List.length (List.getD s p default).Boxes ∧ ∀ (i : Nat), i < List.length (List.getD s p default).Boxes → (fun i => [SV.int IntKind.i64 (List.getD (List.getD s p default).Boxes i (0 : Int))]) i = (fun i => [SV.int IntKind.i64 (List.getD (List.getD s p default).Boxes i (0 : Int))]) i, (↑k : Int) + (1 : Int) = (↑(k + (1 : Nat)) : Int), (↑(List.length (List.getD s p default).Boxes) : Int) = (↑(List.length (List.getD s p default).Boxes) : Int), List.length (List.getD s p default).Boxes = List.length (List.getD s p default).Boxes ∧ ∀ (i : Nat), i < List.length (List.getD s p default).Boxes → (fun i => [SV.int IntKind.i64 (List.getD (List.getD s p default).Boxes i (0 : Int))]) i = (fun i => [SV.int IntKind.i64 (List.getD (List.getD s p default).Boxes i (0 : Int))]) i, (↑p : Int) = (↑p : Int), (↑(List.length s) : Int) = (↑(List.length s) : Int), List.length s = List.length s ∧ ∀ (i : Nat), i < List.length s → (fun i => Std.cells (List.getD s i default)) i = (fun i => Std.cells (List.getD s i default)) i, List.length b = List.length b ∧ ∀ (i : Nat), i < List.length b → (fun i => Box.cells (List.getD b i default)) i = (fun i => Box.cells (List.getD b i default)) i, id = id] (by kernel_rfl) (by kernel_rfl) ⟨rfl, ⟨rfl, fun _ _ => rfl⟩, (by omega), rfl, ⟨rfl, fun _ _ => rfl⟩, rfl, rfl, ⟨rfl, fun _ _ => rfl⟩, ⟨rfl, fun _ _ => rfl⟩, rfl, trivial⟩ ?_ (by show _ < _; omega)
            refine ⟨hkl, fun q hq => ?_⟩
            rcases Nat.lt_or_ge q k with h | h
            · exact hk.2 q h
            · have : q = k := by omega
              subst this; exact hc4
        · have hkl : k = (s.getD p default).Boxes.length := by simp only [decide_eq_false_iff_not] at hc3; omega
          refine good_run 2 (obs := []) (by kernel_rfl) trivial ?_
          refine good_leaveJ (by kernel_rfl) ?_
          refine good_run 7 (obs := [InK IntKind.i64 ((↑p : Int) + (1 : Int))]) (by kernel_rfl) (by (first | omega | assumption | exact ⟨rfl, trivial⟩ | simp only [AllP, inK_iff, roomOK_iff, decide_eq_true_eq, Bool.and_eq_true, Bool.or_eq_true, Bool.not_eq_true', decide_eq_false_iff_not, and_true, true_and]; (first | omega | (and_intros <;> intros <;> (try and_intros) <;> first | omega | assumption | exact trivial)))) ?_
          refine good_backJ (p + 1) [(↑p : Int) + (1 : Int) = (↑(p + (1 : Nat)) : Int), (↑(List.length s) : Int) = (↑(List.length s) : Int), List.length s = List.length s ∧ ∀ (i : Nat), i < List.length s → (fun i => Std.cells (List.getD s i default)) i = (fun i => Std.cells (List.getD s i default)) i, List.length b = List.length b ∧ ∀ (i : Nat), i < List.length b → (fun i => Box.cells (List.getD b i default)) i = (fun i => Box.cells (List.getD b i default)) i, id = id] (by kernel_rfl) (by kernel_rfl) ⟨(by omega), rfl, ⟨rfl, fun _ _ => rfl⟩, ⟨rfl, fun _ _ => rfl⟩, rfl, trivial⟩ ?_ (by show _ < _; omega)
          refine ⟨hpl, fun j hj => ?_⟩
          rcases Nat.lt_or_ge j p with h | h
          · exact hp.2 j h
          · have : j = p := by omega
            subst this
            intro hin
            obtain ⟨q, hq, e⟩ := List.mem_iff_getElem.1 hin
            exact hk.2 q (by omega) (by rw [getD_of_lt _ q hq, e])
      · have hpl : p = s.length := by simp only [decide_eq_false_iff_not] at hc2; omega
        have hfp : findP id 0 s = (-1, -1) := by
          rcases findP_cases id s 0 with ⟨h1, _⟩ | ⟨i, k, hi, hk, _, _, h3, _⟩
          · exact h1
          · exact absurd (h3 ▸ getD_mem _ 0 k hk) (hp.2 i (by omega))
        have e : findR l b s id = (0, 0, 11) := by
          rw [e0, hfp, if_pos (by decide)]
        rw [e]
        refine good_run 2 (obs := []) (by kernel_rfl) trivial ?_
        refine good_leaveJ (by kernel_rfl) ?_
        refine good_run 9 (obs := []) (by kernel_rfl) trivial ?_
        refine good_fin [(0 : Int) = (0 : Int), (0 : Int) = (0 : Int), (11 : Int) = (11 : Int)] (by kernel_rfl) ⟨rfl, rfl, rfl, trivial⟩
  · have e : findR l b s id = (0, 0, 1) := by rw [findR, if_pos h]
    rw [e]
    refine good_run 13 (obs := []) (by kernel_rfl) trivial ?_
    refine good_call (c := True) (by kernel_rfl) (fun _ => SVles.refl _) (fun _ => s16 (l) (b) (s) (by (first | omega | assumption | exact ⟨rfl, trivial⟩ | simp only [AllP, inK_iff, roomOK_iff, decide_eq_true_eq, Bool.and_eq_true, Bool.or_eq_true, Bool.not_eq_true', decide_eq_false_iff_not, and_true, true_and]; (first | omega | (and_intros <;> intros <;> (try and_intros) <;> first | omega | assumption | exact trivial)))) (by (first | omega | assumption | exact ⟨rfl, trivial⟩ | simp only [AllP, inK_iff, roomOK_iff, decide_eq_true_eq, Bool.and_eq_true, Bool.or_eq_true, Bool.not_eq_true', decide_eq_false_iff_not, and_true, true_and]; (first | omega | (and_intros <;> intros <;> (try and_intros) <;> first | omega | assumption | exact trivial))))) (by kernel_rfl) ?_
    refine good_run 3 (obs := []) (by kernel_rfl) trivial ?_
    refine good_cond (!decide (checkS l b s = (0 : Int))) (by kernel_rfl) (fun hc1 => ?_) (fun hc1 => ?_)
    · refine good_run 9 (obs := []) (by kernel_rfl) trivial ?_
      refine good_fin [(0 : Int) = (0 : Int), (0 : Int) = (0 : Int), (1 : Int) = (1 : Int)] (by kernel_rfl) ⟨rfl, rfl, rfl, trivial⟩
    · simp only [Bool.not_eq_false', decide_eq_true_eq] at hc1
      exact absurd hc1 h
end Go.Sx.T
