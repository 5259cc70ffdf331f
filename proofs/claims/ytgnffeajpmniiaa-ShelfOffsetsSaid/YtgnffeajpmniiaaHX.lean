/- Contracts of functions of the program, each proved by running its code symbolically (HX). -/
import Derived.Test.YtgnffeajpmniiaaHU
namespace Go.Sx.T
open Go Go.Proofs Go.Sx
set_option maxRecDepth 100000
set_option maxHeartbeats 4000000
set_option linter.unusedVariables false
set_option linter.unusedSimpArgs false
theorem s25 (c : Box) (id : Int) : Spec Try.prog 25 [c.sv, .ref [.int .i64 id] 0] (.bool (idK Box.ID id c)) := by
  refine spec_of_good mixed Try.func25 F25_ok (by kernel_rfl) ?_
  refine good_run 16 (obs := []) (by kernel_rfl) trivial ?_
  refine good_fin [decide (c.ID = id) = idK Box.ID id c] (by kernel_rfl) ⟨(by rfl), trivial⟩
theorem s27 (c : Shf) (y : Std) : Spec Try.prog 27 [c.sv, .ref [.int .i64 y.Shelf, ints y.Boxes] 0] (.bool (idK Shf.ID y.Shelf c)) := by
  refine spec_of_good mixed Try.func27 F27_ok (by kernel_rfl) ?_
  refine good_run 17 (obs := []) (by kernel_rfl) trivial ?_
  refine good_fin [decide (c.ID = y.Shelf) = idK Shf.ID y.Shelf c] (by kernel_rfl) ⟨(by rfl), trivial⟩
theorem s24a (b : List Box) (id : Int) : Spec Try.prog 24 [boxes b, .fn 25 [.ref [.int .i64 id] 0]] (.int .i64 (findI b (idK Box.ID id))) := s24 b 25 _ (idK Box.ID id) (fun c => s25 c id)
theorem s26a (l : List Shf) (y : Std) : Spec Try.prog 26 [shfs l, .fn 27 [.ref [.int .i64 y.Shelf, ints y.Boxes] 0]] (.int .i64 (findI l (idK Shf.ID y.Shelf))) := s26 l 27 _ (idK Shf.ID y.Shelf) (fun c => s27 c y)
/-- Boxes that stand once are found where they stand. -/
theorem nodup_boxes : ∀ {s : List Std}, (usedB s).Nodup → ∀ (p : Nat), p < s.length → (s.getD p default).Boxes.Nodup ∧ ∀ j, j < p → ∀ x, x ∈ (s.getD p default).Boxes → x ∉ (s.getD j default).Boxes
  | [], _, p, h => by simp at h
  | y :: r, hn, p, h => by
    rw [usedB, List.nodup_append] at hn
    obtain ⟨h1, h2, h3⟩ := hn
    cases p with
    | zero => exact ⟨by simpa using h1, by omega⟩
    | succ p =>
      obtain ⟨q1, q2⟩ := nodup_boxes h2 p (by simpa using h)
      refine ⟨by simpa using q1, fun j hj x hx => ?_⟩
      have hx' : x ∈ (r.getD p default).Boxes := by simpa using hx
      cases j with
      | zero =>
        intro hxy
        have hxy' : x ∈ y.Boxes := by simpa using hxy
        exact h3 x hxy' x ((mem_usedB x r).2 ⟨p, by simpa using h, hx'⟩) rfl
      | succ j => simpa using q2 j (by omega) x hx'
theorem findI_nodup {x : List Int} (h : x.Nodup) (k : Nat) (hk : k < x.length) : findI x (eqK (x.getD k 0)) = k := by
  refine findI_hit x _ k hk (show decide (x.getD k 0 = x.getD k 0) = true from decide_eq_true rfl) (fun j hj => show decide (x.getD j 0 = x.getD k 0) = false from decide_eq_false fun e => ?_)
  rw [List.nodup_iff_pairwise_ne, List.pairwise_iff_getElem] at h
  have := h j k (by omega) hk hj
  rw [getD_of_lt _ j (by omega), getD_of_lt _ k hk] at e
  exact this e
theorem findP_at {l : List Shf} {b : List Box} {s : List Std} (hR : Right l b s) (p k : Nat) (hp : p < s.length) (hk : k < (s.getD p default).Boxes.length) : findP ((s.getD p default).Boxes.getD k 0) 0 s = ((p : Int), (k : Int)) := by
  obtain ⟨h1, h2⟩ := nodup_boxes hR.nd p hp
  have := findP_hit ((s.getD p default).Boxes.getD k 0) s 0 p k hp (fun j hj => h2 j hj _ (getD_mem _ 0 k hk)) (findI_nodup h1 k hk)
  rwa [Nat.zero_add] at this
theorem findR_at {l : List Shf} {b : List Box} {s : List Std} (h : checkS l b s = 0) (p k : Nat) (hp : p < s.length) (hk : k < (s.getD p default).Boxes.length) :
    findR l b s ((s.getD p default).Boxes.getD k 0) = ((s.getD p default).Shelf, widthI b ((s.getD p default).Boxes.take k), 0) := by
  have hR := right_of h
  have hon := (hR.on _ (getD_mem s default p hp)).2.2.2 _ (getD_mem _ 0 k hk)
  rw [findR, if_neg (fun g => g h), if_neg (by rw [hon.1]; decide), findP_at hR p k hp hk, if_neg (by show ¬ (p : Int) < 0; omega)]
  rfl
/-! Offsets. -/
theorem s5 (l : List Shf) (b : List Box) (s : List Std) : Spec Try.prog 5 [store l b s] (.bool true) := by
  refine spec_of_good mixed Try.func5 F5_ok (by kernel_rfl) ?_
  by_cases hf : fewL l b s = true
  · obtain ⟨wl, wb, wc, ws, wx⟩ := few_wide hf
    have s11a : Spec Try.prog 11 [store l b s] (.bool true) := hf ▸ s11 l b s
    have s17a := s17 l b s wl wb wc ws wx
    by_cases hcs : checkS l b s = 0
    · have s15a : Spec Try.prog 15 [store l b s] (.int .i64 0) := hcs ▸ s15 l b s wl wb wc ws wx
      have hR := right_of hcs
      have hwb := hR.wb
      refine good_run 9 (obs := []) (by kernel_rfl) trivial ?_
      refine good_call (c := True) (by kernel_rfl) (fun _ => SVles.refl _) (fun _ => s10) (by kernel_rfl) ?_
      refine good_run 3 (obs := []) (by kernel_rfl) trivial ?_
      refine good_cond false (by kernel_rfl) (fun h => nomatch h) (fun _ => ?_)
      refine good_run 5 (obs := [(0 : Nat) + (3 : Nat) ≤ (3 : Nat)]) (by kernel_rfl) (by (first | omega | assumption | exact ⟨rfl, trivial⟩ | simp only [AllP, inK_iff, roomOK_iff, decide_eq_true_eq, Bool.and_eq_true, Bool.or_eq_true, Bool.not_eq_true', decide_eq_false_iff_not, and_true, true_and]; (first | omega | (and_intros <;> intros <;> (try and_intros) <;> first | omega | assumption | exact trivial)))) ?_
      refine good_call (c := True) (by kernel_rfl) (fun _ => SVles.refl _) (fun _ => s11a) (by kernel_rfl) ?_
      refine good_run 4 (obs := [(!true) = false ∧ True → (0 : Nat) + (3 : Nat) ≤ (3 : Nat)]) (by kernel_rfl) (by (first | omega | assumption | exact ⟨rfl, trivial⟩ | simp only [AllP, inK_iff, roomOK_iff, decide_eq_true_eq, Bool.and_eq_true, Bool.or_eq_true, Bool.not_eq_true', decide_eq_false_iff_not, and_true, true_and]; (first | omega | (and_intros <;> intros <;> (try and_intros) <;> first | omega | assumption | exact trivial)))) ?_
      refine good_call (c := (!true) = false ∧ True) (by kernel_rfl) (fun _ => SVles.refl _) (fun _ => s15a) (by kernel_rfl) ?_
      refine good_run 5 (obs := []) (by kernel_rfl) trivial ?_
      refine good_cond false (by kernel_rfl) (fun h => nomatch h) (fun _ => ?_)
      refine good_run 4 (obs := [(0 : Nat) + (3 : Nat) ≤ (3 : Nat)]) (by kernel_rfl) (by (first | omega | assumption | exact ⟨rfl, trivial⟩ | simp only [AllP, inK_iff, roomOK_iff, decide_eq_true_eq, Bool.and_eq_true, Bool.or_eq_true, Bool.not_eq_true', decide_eq_false_iff_not, and_true, true_and]; (first | omega | (and_intros <;> intros <;> (try and_intros) <;> first | omega | assumption | exact trivial)))) ?_
      refine good_call (c := True) (by kernel_rfl) (fun _ => SVles.refl _) (fun _ => s17a) (by kernel_rfl) ?_
      refine good_run 19 (obs := []) (by kernel_rfl) trivial ?_
      refine good_loopJ (fun p : Nat => ⟨[(37, .sv (.int .i64 (p))), (36, LV.sv (SV.int IntKind.i64 (↑(List.length s) : Int))), (35, LV.sv (SV.lst (2 : Nat) (List.length s) fun i => Std.cells (List.getD s i default))), (5, LV.sv (SV.lst (2 : Nat) (List.length s) fun i => Std.cells (List.getD s i default))), (4, LV.sv (SV.lst (5 : Nat) (List.length b) fun i => Box.cells (List.getD b i default))), (3, LV.sv (SV.lst (4 : Nat) (List.length l) fun i => Shf.cells (List.getD l i default))), (1, LV.ptr (0 : Nat) (0 : Nat))], [Blk.cells (26 : Nat) false [SV.lst (4 : Nat) (List.length l) fun i => Shf.cells (List.getD l i default), SV.lst (5 : Nat) (List.length b) fun i => Box.cells (List.getD b i default), SV.lst (2 : Nat) (List.length s) fun i => Std.cells (List.getD s i default)]]⟩) (fun p => p ≤ s.length) (fun p => s.length - p) (0) [List.length l = List.length l ∧ ∀ (i : Nat), i < List.length l → (fun i => Shf.cells (List.getD l i default)) i = (fun i => Shf.cells (List.getD l i default)) i, List.length b = List.length b ∧ ∀ (i : Nat), i < List.length b → (fun i => Box.cells (List.getD b i default)) i = (fun i => Box.cells (List.getD b i default)) i, List.length s = List.length s ∧ ∀ (i : Nat), i < List.length s → (fun i => Std.cells (List.getD s i default)) i = (fun i => Std.cells (List.getD s i default)) i, (0 : Int) = (0 : Int), (↑(List.length s) : Int) = (↑(List.length s) : Int), List.length s = List.length s ∧ ∀ (i : Nat), i < List.length s → (fun i => Std.cells (List.getD s i default)) i = (fun i => Std.cells (List.getD s i default)) i, List.length s = List.length s ∧ ∀ (i : Nat), i < List.length s → (fun i => Std.cells (List.getD s i default)) i = (fun i => Std.cells (List.getD s i default)) i, List.length b = List.length b ∧ ∀ (i : Nat), i < List.length b → (fun i => Box.cells (List.getD b i default)) i = (fun i => Box.cells (List.getD b i default)) i, List.length l = List.length l ∧ ∀ (i : Nat), i < List.length l → (fun i => Shf.cells (List.getD l i default)) i = (fun i => Shf.cells (List.getD l i default)) i] (by kernel_rfl) (by kernel_rfl) ⟨⟨rfl, fun _ _ => rfl⟩, ⟨rfl, fun _ _ => rfl⟩, ⟨rfl, fun _ _ => rfl⟩, rfl, rfl, ⟨rfl, fun _ _ => rfl⟩, ⟨rfl, fun _ _ => rfl⟩, ⟨rfl, fun _ _ => rfl⟩, ⟨rfl, fun _ _ => rfl⟩, trivial⟩ (by omega) ?_
      intro p hp
      refine good_run 6 (obs := []) (by kernel_rfl) trivial ?_
      refine good_cond (decide ((↑p : Int) < (↑(List.length s) : Int))) (by kernel_rfl) (fun hc1 => ?_) (fun hc1 => ?_)
      · have hpl : p < s.length := by simp only [decide_eq_true_eq] at hc1; omega
        obtain ⟨o1, o2, o3, o4⟩ := hR.on _ (getD_mem s default p hpl)
        have hbd := widthI_bound hwb (s.getD p default).Boxes
        have hxp := wx _ (getD_mem s default p hpl)
        refine good_run 26 (obs := [(2 : Nat) = (2 : Nat) ∧ (0 : Int) ≤ (↑p : Int) ∧ (↑p : Int) < (↑(List.length s) : Int), (0 : Nat) + (2 : Nat) ≤ (2 : Nat), (2 : Nat) = (2 : Nat) ∧ (0 : Nat) + (2 : Nat) ≤ (2 : Nat)]) (by kernel_rfl) (by (first | omega | assumption | exact ⟨rfl, trivial⟩ | simp only [AllP, inK_iff, roomOK_iff, decide_eq_true_eq, Bool.and_eq_true, Bool.or_eq_true, Bool.not_eq_true', decide_eq_false_iff_not, and_true, true_and]; (first | omega | (and_intros <;> intros <;> (try and_intros) <;> first | omega | assumption | exact trivial)))) ?_
        refine good_loopJ (fun k : Nat => ⟨[(44, .sv (.int .i64 (k))), (8, .sv (.int .i64 (widthI b ((s.getD p default).Boxes.take k)))), (43, LV.sv (SV.int IntKind.i64 (↑(List.length (List.getD s p default).Boxes) : Int))), (42, LV.sv (SV.lst (1 : Nat) (List.length (List.getD s p default).Boxes) fun i => [SV.int IntKind.i64 (List.getD (List.getD s p default).Boxes i (0 : Int))])), (7, LV.ptr (1 : Nat) (0 : Nat)), (37, LV.sv (SV.int IntKind.i64 (↑p : Int))), (36, LV.sv (SV.int IntKind.i64 (↑(List.length s) : Int))), (35, LV.sv (SV.lst (2 : Nat) (List.length s) fun i => Std.cells (List.getD s i default))), (5, LV.sv (SV.lst (2 : Nat) (List.length s) fun i => Std.cells (List.getD s i default))), (4, LV.sv (SV.lst (5 : Nat) (List.length b) fun i => Box.cells (List.getD b i default))), (3, LV.sv (SV.lst (4 : Nat) (List.length l) fun i => Shf.cells (List.getD l i default))), (1, LV.ptr (0 : Nat) (0 : Nat))], [Blk.cells (26 : Nat) false [SV.lst (4 : Nat) (List.length l) fun i => Shf.cells (List.getD l i default), SV.lst (5 : Nat) (List.length b) fun i => Box.cells (List.getD b i default), SV.lst (2 : Nat) (List.length s) fun i => Std.cells (List.getD s i default)], Blk.cells (47 : Nat) false [SV.int IntKind.i64 (List.getD s p default).Shelf, SV.lst (1 : Nat) (List.length (List.getD s p default).Boxes) fun i => [SV.int IntKind.i64 (List.getD (List.getD s p default).Boxes i (0 : Int))]]]⟩) (fun k => k ≤ (s.getD p default).Boxes.length) (fun k => (s.getD p default).Boxes.length - k) (0) [List.length l = List.length l ∧ ∀ (i : Nat), i < List.length l → (fun i => Shf.cells (List.getD l i default)) i = (fun i => Shf.cells (List.getD l i default)) i, List.length b = List.length b ∧ ∀ (i : Nat), i < List.length b → (fun i => Box.cells (List.getD b i default)) i = (fun i => Box.cells (List.getD b i default)) i, List.length s = List.length s ∧ ∀ (i : Nat), i < List.length s → (fun i => Std.cells (List.getD s i default)) i = (fun i => Std.cells (List.getD s i default)) i, (List.getD s p default).Shelf = (List.getD s p default).Shelf, List.length (List.getD s p default).Boxes = List.length (List.getD s p default).Boxes ∧ ∀ (i : Nat), i < List.length (List.getD s p default).Boxes → (fun i => [SV.int IntKind.i64 (List.getD (List.getD s p default).Boxes i (0 : Int))]) i = (fun i => [SV.int IntKind.i64 (List.getD (List.getD s p default).Boxes i (0 : Int))]) i, (0 : Int) = (0 : Int), (0 : Int) = widthI b [], (↑(List.length (List.getD s p default).Boxes) : Int) = (↑(List.length (List.getD s p default).Boxes) : Int), List.length (List.getD s p default).Boxes = List.length (List.getD s p default).Boxes ∧ ∀ (i : Nat), i < List.length (List.getD s p default).Boxes → (fun i => [SV.int IntKind.i64 (List.getD (List.getD s p default).Boxes i (0 : Int))]) i = (fun i => [SV.int IntKind.i64 (List.getD (List.getD s p default).Boxes i (0 : Int))]) i, (↑p : Int) = (↑p : Int), (↑(List.length s) : Int) = (↑(List.length s) : Int), List.length s = List.length s ∧ ∀ (i : Nat), i < List.length s → (fun i => Std.cells (List.getD s i default)) i = (fun i => Std.cells (List.getD s i default)) i, List.length s = List.length s ∧ ∀ (i : Nat), i < List.length s → (fun i => Std.cells (List.getD s i default)) i = (fun i => Std.cells (List.getD s i default)) i, List.length b = List.length b ∧ ∀ (i : Nat), i < List.length b → (fun i => Box.cells (List.getD b i default)) i = (fun i => Box.cells (List.getD b i default)) i, List.length l = List.length l ∧ ∀ (i : Nat), i < List.length l → (fun i => Shf.cells (List.getD l i default)) i = (fun i => Shf.cells (List.getD l i default)) i] (by kernel_rfl) (by kernel_rfl) ⟨⟨rfl, fun _ _ => rfl⟩, ⟨rfl, fun _ _ => rfl⟩, ⟨rfl, fun _ _ => rfl⟩, rfl, ⟨rfl, fun _ _ => rfl⟩, rfl, (by rfl), rfl, ⟨rfl, fun _ _ => rfl⟩, rfl, rfl, ⟨rfl, fun _ _ => rfl⟩, ⟨rfl, fun _ _ => rfl⟩, ⟨rfl, fun _ _ => rfl⟩, ⟨rfl, fun _ _ => rfl⟩, trivial⟩ (by omega) ?_
        intro k hk
        refine good_run 6 (obs := []) (by kernel_rfl) trivial ?_
        refine good_cond (decide ((↑k : Int) < (↑(List.length (List.getD s p default).Boxes) : Int))) (by kernel_rfl) (fun hc2 => ?_) (fun hc2 => ?_)
        · have hkl : k < (s.getD p default).Boxes.length := by simp only [decide_eq_true_eq] at hc2; omega
          have hwt := widthI_take hwb (s.getD p default).Boxes k hkl
          have hfr := findR_at hcs p k hpl hkl
          have s20a : Spec Try.prog 20 [shfs l, boxes b, stds s, .int .i64 ((s.getD p default).Boxes.getD k 0)] (.tup [.int .i64 (s.getD p default).Shelf, .int .i64 (widthI b ((s.getD p default).Boxes.take k)), .int .i64 0]) := by
            have := s20 l b s ((s.getD p default).Boxes.getD k 0) ws wx
            rwa [hfr] at this
          have hb1 := (o4 _ (getD_mem _ 0 k hkl)).1
          rcases isK_cases b Box.ID ((s.getD p default).Boxes.getD k 0) with ⟨g1, _⟩ | ⟨m, hm, _, g2, g3, _⟩
          · rw [hb1] at g1; cases g1
          · have s24b : Spec Try.prog 24 [boxes b, .fn 25 [.ref [.int .i64 ((s.getD p default).Boxes.getD k 0)] 0]] (.int .i64 (m : Int)) := g3 ▸ s24a b _
            rw [g2] at hwt
            refine good_run 17 (obs := [(1 : Nat) = (1 : Nat) ∧ (0 : Int) ≤ (↑k : Int) ∧ (↑k : Int) < (↑(List.length (List.getD s p default).Boxes) : Int), (1 : Nat) = (1 : Nat) ∧ (0 : Nat) + (1 : Nat) ≤ (1 : Nat)]) (by kernel_rfl) (by (first | omega | assumption | exact ⟨rfl, trivial⟩ | simp only [AllP, inK_iff, roomOK_iff, decide_eq_true_eq, Bool.and_eq_true, Bool.or_eq_true, Bool.not_eq_true', decide_eq_false_iff_not, and_true, true_and]; (first | omega | (and_intros <;> intros <;> (try and_intros) <;> first | omega | assumption | exact trivial)))) ?_
            refine good_call (c := True) (by kernel_rfl) (fun _ => SVles.refl _) (fun _ => s20a) (by kernel_rfl) ?_
            refine good_run 14 (obs := []) (by kernel_rfl) trivial ?_
            refine good_call (c := True) (by kernel_rfl) (fun _ => SVles.refl _) (fun _ => s24b) (by kernel_rfl) ?_
            refine good_run 25 (obs := []) (by kernel_rfl) trivial ?_
            refine good_cond (!decide ((0 : Int) = (0 : Int)) || !decide ((List.getD s p default).Shelf = (List.getD s p default).Shelf) || decide (widthI b (List.take k (List.getD s p default).Boxes) < widthI b (List.take k (List.getD s p default).Boxes)) || decide ((↑m : Int) < (0 : Int))) (by kernel_rfl) (fun hc3 => ?_) (fun hc3 => ?_)
            · simp at hc3
              omega
            · refine good_run 19 (obs := [(5 : Nat) = (5 : Nat) ∧ (0 : Int) ≤ (↑m : Int) ∧ (↑m : Int) < (↑(List.length b) : Int), InK IntKind.i64 (widthI b (List.take k (List.getD s p default).Boxes) + (List.getD b m default).Width), InK IntKind.i64 ((↑k : Int) + (1 : Int))]) (by kernel_rfl) (by (first | omega | assumption | exact ⟨rfl, trivial⟩ | simp only [AllP, inK_iff, roomOK_iff, decide_eq_true_eq, Bool.and_eq_true, Bool.or_eq_true, Bool.not_eq_true', decide_eq_false_iff_not, and_true, true_and]; (first | omega | (and_intros <;> intros <;> (try and_intros) <;> first | omega | assumption | exact trivial)))) ?_
              refine good_backJ (k + 1) [List.length l = List.length l ∧ ∀ (i : Nat), i < List.length l → (fun i => Shf.cells (List.getD l i default)) i = (fun i => Shf.cells (List.getD l i default)) i, List.length b = List.length b ∧ ∀ (i : Nat), i < List.length b → (fun i => Box.cells (List.getD b i default)) i = (fun i => Box.cells (List.getD b i default)) i, List.length s = List.length s ∧ ∀ (i : Nat), i < List.length s → (fun i => Std.cells (List.getD s i default)) i = (fun i => Std.cells (List.getD s i default)) i, (List.getD s p default).Shelf = (List.getD s p default).Shelf, List.length (List.getD s p default).Boxes = List.length (List.getD s p default).Boxes ∧ ∀ (i : Nat), i < List.length (List.getD s p default).Boxes → (fun i => [SV.int IntKind.i64 (List.getD (List.getD s p default).Boxes i (0 : Int))]) i = (fun i => [SV.int IntKind.i64 (List.getD (List.getD s p default).Boxes i (0 : Int))]) i, (↑k : Int) + (1 : Int) = (↑(k + (1 : Nat)) : Int), widthI b (List.take k (List.getD s p default).Boxes) + (List.getD b m default).Width = widthI b (List.take (k + (1 : Nat)) (List.getD s p default).Boxes), (↑(List.length (List.getD s p default).Boxes) : Int) = (↑(List.length (List.getD s p default).Boxes) : Int), List.length (List.getD s p default).Boxes = List.length (List.getD s p default).Boxes ∧ ∀ (i : Nat), i < List.length (List.getD s p default).Boxes → (fun i => [SV.int IntKind.i64 (List.getD (List.getD s p default).Boxes i (0 : Int))]) i = (fun i => [SV.int IntKind.i64 (List.getD (List.getD s p default).Boxes i (0 : Int))]) i, (↑p : Int) = (↑p : Int), (↑(List.length s) : Int) = (↑(List.length s) : Int), List.length s = List.length s ∧ ∀ (i : Nat), i < List.length s → (fun i => Std.cells (List.getD s i default)) i = (fun i => Std.cells (List.getD s i default)) i, List.length s = List.length s ∧ ∀ (i : Nat), i < List.length s → (fun i => Std.cells (List.getD s i default)) i = (fun i => Std.cells (List.getD s i default)) i, List.length b = List.length b ∧ ∀ (i : Nat), i < List.length b → (fun i => Box.cells (List.getD b i default)) i = (fun i => Box.cells (List.getD b i default)) i, List.length l = List.length l ∧ ∀ (i : Nat), i < List.length l → (fun i => Shf.cells (List.getD l i default)) i = (fun i => Shf.cells (List.getD l i default)) i] (by kernel_rfl) (by kernel_rfl) ⟨⟨rfl, fun _ _ => rfl⟩, ⟨rfl, fun _ _ => rfl⟩, ⟨rfl, fun _ _ => rfl⟩, rfl, ⟨rfl, fun _ _ => rfl⟩, (by omega), (by omega), rfl, ⟨rfl, fun _ _ => rfl⟩, rfl, rfl, ⟨rfl, fun _ _ => rfl⟩, ⟨rfl, fun _ _ => rfl⟩, ⟨rfl, fun _ _ => rfl⟩, ⟨rfl, fun _ _ => rfl⟩, trivial⟩ (by omega) (by show _ < _; omega)
        · have hkl : k = (s.getD p default).Boxes.length := by simp only [decide_eq_false_iff_not] at hc2; omega
          subst hkl
          rw [List.take_length]
          rcases isK_cases l Shf.ID (s.getD p default).Shelf with ⟨g1, _⟩ | ⟨m, hm, _, g2, g3, g4⟩
          · rw [o1] at g1; cases g1
          · have hok := okS_len (hR.okl _ (getD_mem l default m hm))
            have hbx : boxesOf s (l.getD m default).ID = (s.getD p default).Boxes := by
              rw [g4, boxesOf, (atK_self hR.as' p hpl).2]
            have hrr : roomR l b s (s.getD p default).Shelf = ((l.getD m default).Length - widthI b (s.getD p default).Boxes, 0) := by
              rw [roomR, if_neg (fun g => g hcs), if_neg (by rw [o1]; decide), g2, roomI, hbx]
            rw [g2] at o3
            have s18a : Spec Try.prog 18 [shfs l, boxes b, stds s, .int .i64 (s.getD p default).Shelf] (.tup [.int .i64 ((l.getD m default).Length - widthI b (s.getD p default).Boxes), .int .i64 0]) := by
              have := s18 l b s (s.getD p default).Shelf ws wx
              rwa [hrr] at this
            have s26b : Spec Try.prog 26 [shfs l, .fn 27 [.ref [.int .i64 (s.getD p default).Shelf, ints (s.getD p default).Boxes] 0]] (.int .i64 (m : Int)) := g3 ▸ s26a l _
            refine good_run 2 (obs := []) (by kernel_rfl) trivial ?_
            refine good_leaveJ (by kernel_rfl) ?_
            refine good_run 8 (obs := []) (by kernel_rfl) trivial ?_
            refine good_call (c := True) (by kernel_rfl) (fun _ => SVles.refl _) (fun _ => s18a) (by kernel_rfl) ?_
            refine good_run 12 (obs := []) (by kernel_rfl) trivial ?_
            refine good_call (c := True) (by kernel_rfl) (fun _ => SVles.refl _) (fun _ => s26b) (by kernel_rfl) ?_
            refine good_run 29 (obs := [(!decide ((0 : Int) = (0 : Int)) || decide ((List.getD l m default).Length - widthI b (List.getD s p default).Boxes < (0 : Int)) || decide ((↑m : Int) < (0 : Int))) = false ∧ True → InK IntKind.i64 (widthI b (List.getD s p default).Boxes + ((List.getD l m default).Length - widthI b (List.getD s p default).Boxes)), (!decide ((0 : Int) = (0 : Int)) || decide ((List.getD l m default).Length - widthI b (List.getD s p default).Boxes < (0 : Int)) || decide ((↑m : Int) < (0 : Int))) = false ∧ True → (4 : Nat) = (4 : Nat) ∧ (0 : Int) ≤ (↑m : Int) ∧ (↑m : Int) < (↑(List.length l) : Int)]) (by kernel_rfl) (by (first | omega | assumption | exact ⟨rfl, trivial⟩ | simp only [AllP, inK_iff, roomOK_iff, decide_eq_true_eq, Bool.and_eq_true, Bool.or_eq_true, Bool.not_eq_true', decide_eq_false_iff_not, and_true, true_and]; (first | omega | (and_intros <;> intros <;> (try and_intros) <;> first | omega | assumption | exact trivial)))) ?_
            refine good_cond (!decide ((0 : Int) = (0 : Int)) || decide ((List.getD l m default).Length - widthI b (List.getD s p default).Boxes < (0 : Int)) || decide ((↑m : Int) < (0 : Int)) || !decide (widthI b (List.getD s p default).Boxes + ((List.getD l m default).Length - widthI b (List.getD s p default).Boxes) = (List.getD l m default).Length)) (by kernel_rfl) (fun hc3 => ?_) (fun hc3 => ?_)
            · simp only [Bool.or_eq_true, decide_eq_true_eq, Bool.not_eq_true', decide_eq_false_iff_not] at hc3
              rcases hc3 with ((h | h) | h) | h
              · exact absurd trivial h
              · omega
              · omega
              · exact absurd (by omega) h
            · refine good_run 7 (obs := [InK IntKind.i64 ((↑p : Int) + (1 : Int))]) (by kernel_rfl) (by (first | omega | assumption | exact ⟨rfl, trivial⟩ | simp only [AllP, inK_iff, roomOK_iff, decide_eq_true_eq, Bool.and_eq_true, Bool.or_eq_true, Bool.not_eq_true', decide_eq_false_iff_not, and_true, true_and]; (first | omega | (and_intros <;> intros <;> (try and_intros) <;> first | omega | assumption | exact trivial)))) ?_
              refine good_backJ (p + 1) [List.length l = List.length l ∧ ∀ (i : Nat), i < List.length l → (fun i => Shf.cells (List.getD l i default)) i = (fun i => Shf.cells (List.getD l i default)) i, List.length b = List.length b ∧ ∀ (i : Nat), i < List.length b → (fun i => Box.cells (List.getD b i default)) i = (fun i => Box.cells (List.getD b i default)) i, List.length s = List.length s ∧ ∀ (i : Nat), i < List.length s → (fun i => Std.cells (List.getD s i default)) i = (fun i => Std.cells (List.getD s i default)) i, (↑p : Int) + (1 : Int) = (↑(p + (1 : Nat)) : Int), (↑(List.length s) : Int) = (↑(List.length s) : Int), List.length s = List.length s ∧ ∀ (i : Nat), i < List.length s → (fun i => Std.cells (List.getD s i default)) i = (fun i => Std.cells (List.getD s i default)) i, List.length s = List.length s ∧ ∀ (i : Nat), i < List.length s → (fun i => Std.cells (List.getD s i default)) i = (fun i => Std.cells (List.getD s i default)) i, List.length b = List.length b ∧ ∀ (i : Nat), i < List.length b → (fun i => Box.cells (List.getD b i default)) i = (fun i => Box.cells (List.getD b i default)) i, List.length l = List.length l ∧ ∀ (i : Nat), i < List.length l → (fun i => Shf.cells (List.getD l i default)) i = (fun i => Shf.cells (List.getD l i default)) i] (by kernel_rfl) (by kernel_rfl) ⟨⟨rfl, fun _ _ => rfl⟩, ⟨rfl, fun _ _ => rfl⟩, ⟨rfl, fun _ _ => rfl⟩, (by omega), rfl, ⟨rfl, fun _ _ => rfl⟩, ⟨rfl, fun _ _ => rfl⟩, ⟨rfl, fun _ _ => rfl⟩, ⟨rfl, fun _ _ => rfl⟩, trivial⟩ (by omega) (by show _ < _; omega)
      · refine good_run 2 (obs := []) (by kernel_rfl) trivial ?_
        refine good_leaveJ (by kernel_rfl) ?_
        refine good_run 7 (obs := []) (by kernel_rfl) trivial ?_
        refine good_fin [true = true] (by kernel_rfl) ⟨rfl, trivial⟩
    · refine good_run 9 (obs := []) (by kernel_rfl) trivial ?_
      refine good_call (c := True) (by kernel_rfl) (fun _ => SVles.refl _) (fun _ => s10) (by kernel_rfl) ?_
      refine good_run 3 (obs := []) (by kernel_rfl) trivial ?_
      refine good_cond false (by kernel_rfl) (fun h => nomatch h) (fun _ => ?_)
      refine good_run 5 (obs := [(0 : Nat) + (3 : Nat) ≤ (3 : Nat)]) (by kernel_rfl) (by (first | omega | assumption | exact ⟨rfl, trivial⟩ | simp only [AllP, inK_iff, roomOK_iff, decide_eq_true_eq, Bool.and_eq_true, Bool.or_eq_true, Bool.not_eq_true', decide_eq_false_iff_not, and_true, true_and]; (first | omega | (and_intros <;> intros <;> (try and_intros) <;> first | omega | assumption | exact trivial)))) ?_
      refine good_call (c := True) (by kernel_rfl) (fun _ => SVles.refl _) (fun _ => s11a) (by kernel_rfl) ?_
      refine good_run 4 (obs := [(!true) = false ∧ True → (0 : Nat) + (3 : Nat) ≤ (3 : Nat)]) (by kernel_rfl) (by (first | omega | assumption | exact ⟨rfl, trivial⟩ | simp only [AllP, inK_iff, roomOK_iff, decide_eq_true_eq, Bool.and_eq_true, Bool.or_eq_true, Bool.not_eq_true', decide_eq_false_iff_not, and_true, true_and]; (first | omega | (and_intros <;> intros <;> (try and_intros) <;> first | omega | assumption | exact trivial)))) ?_
      refine good_call (c := (!true) = false ∧ True) (by kernel_rfl) (fun _ => SVles.refl _) (fun _ => s15 (l) (b) (s) (by (first | omega | assumption | exact ⟨rfl, trivial⟩ | simp only [AllP, inK_iff, roomOK_iff, decide_eq_true_eq, Bool.and_eq_true, Bool.or_eq_true, Bool.not_eq_true', decide_eq_false_iff_not, and_true, true_and]; (first | omega | (and_intros <;> intros <;> (try and_intros) <;> first | omega | assumption | exact trivial)))) (by (first | omega | assumption | exact ⟨rfl, trivial⟩ | simp only [AllP, inK_iff, roomOK_iff, decide_eq_true_eq, Bool.and_eq_true, Bool.or_eq_true, Bool.not_eq_true', decide_eq_false_iff_not, and_true, true_and]; (first | omega | (and_intros <;> intros <;> (try and_intros) <;> first | omega | assumption | exact trivial)))) (by (first | omega | assumption | exact ⟨rfl, trivial⟩ | simp only [AllP, inK_iff, roomOK_iff, decide_eq_true_eq, Bool.and_eq_true, Bool.or_eq_true, Bool.not_eq_true', decide_eq_false_iff_not, and_true, true_and]; (first | omega | (and_intros <;> intros <;> (try and_intros) <;> first | omega | assumption | exact trivial)))) (by (first | omega | assumption | exact ⟨rfl, trivial⟩ | simp only [AllP, inK_iff, roomOK_iff, decide_eq_true_eq, Bool.and_eq_true, Bool.or_eq_true, Bool.not_eq_true', decide_eq_false_iff_not, and_true, true_and]; (first | omega | (and_intros <;> intros <;> (try and_intros) <;> first | omega | assumption | exact trivial)))) (by (first | omega | assumption | exact ⟨rfl, trivial⟩ | simp only [AllP, inK_iff, roomOK_iff, decide_eq_true_eq, Bool.and_eq_true, Bool.or_eq_true, Bool.not_eq_true', decide_eq_false_iff_not, and_true, true_and]; (first | omega | (and_intros <;> intros <;> (try and_intros) <;> first | omega | assumption | exact trivial))))) (by kernel_rfl) ?_
      refine good_run 5 (obs := []) (by kernel_rfl) trivial ?_
      refine good_cond (!true || !decide (checkS l b s = (0 : Int))) (by kernel_rfl) (fun hc1 => ?_) (fun hc1 => ?_)
      · refine good_run 7 (obs := []) (by kernel_rfl) trivial ?_
        refine good_fin [true = true] (by kernel_rfl) ⟨rfl, trivial⟩
      · simp at hc1
        exact absurd hc1 hcs
  · have hf' : fewL l b s = false := by simpa using hf
    have s11a : Spec Try.prog 11 [store l b s] (.bool false) := hf' ▸ s11 l b s
    refine good_run 9 (obs := []) (by kernel_rfl) trivial ?_
    refine good_call (c := True) (by kernel_rfl) (fun _ => SVles.refl _) (fun _ => s10) (by kernel_rfl) ?_
    refine good_run 3 (obs := []) (by kernel_rfl) trivial ?_
    refine good_cond false (by kernel_rfl) (fun h => nomatch h) (fun _ => ?_)
    refine good_run 5 (obs := [(0 : Nat) + (3 : Nat) ≤ (3 : Nat)]) (by kernel_rfl) (by (first | omega | assumption | exact ⟨rfl, trivial⟩ | simp only [AllP, inK_iff, roomOK_iff, decide_eq_true_eq, Bool.and_eq_true, Bool.or_eq_true, Bool.not_eq_true', decide_eq_false_iff_not, and_true, true_and]; (first | omega | (and_intros <;> intros <;> (try and_intros) <;> first | omega | assumption | exact trivial)))) ?_
    refine good_call (c := True) (by kernel_rfl) (fun _ => SVles.refl _) (fun _ => s11a) (by kernel_rfl) ?_
    refine good_run 4 (obs := [(!false) = false ∧ True → (0 : Nat) + (3 : Nat) ≤ (3 : Nat)]) (by kernel_rfl) (by (first | omega | assumption | exact ⟨rfl, trivial⟩ | simp only [AllP, inK_iff, roomOK_iff, decide_eq_true_eq, Bool.and_eq_true, Bool.or_eq_true, Bool.not_eq_true', decide_eq_false_iff_not, and_true, true_and]; (first | omega | (and_intros <;> intros <;> (try and_intros) <;> first | omega | assumption | exact trivial)))) ?_
    refine good_call (c := (!false) = false ∧ True) (by kernel_rfl) (fun _ => SVles.refl _) (fun _ => s15 (l) (b) (s) ?_ ?_ ?_ ?_ ?_) (by kernel_rfl) ?_
    · rename_i h; exact absurd h.1 (by decide)
    · rename_i h; exact absurd h.1 (by decide)
    · rename_i h; exact absurd h.1 (by decide)
    · rename_i h; exact absurd h.1 (by decide)
    · rename_i h; exact absurd h.1 (by decide)
    refine good_run 5 (obs := []) (by kernel_rfl) trivial ?_
    refine good_cond (!false || !decide (checkS l b s = (0 : Int))) (by kernel_rfl) (fun hc1 => ?_) (fun hc1 => ?_)
    · refine good_run 7 (obs := []) (by kernel_rfl) trivial ?_
      refine good_fin [true = true] (by kernel_rfl) ⟨rfl, trivial⟩
    · simp at hc1
end Go.Sx.T
