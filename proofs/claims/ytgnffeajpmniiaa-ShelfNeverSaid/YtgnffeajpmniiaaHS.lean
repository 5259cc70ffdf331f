/- Contracts of functions of the program, each proved by running its code symbolically (HS). -/
import Derived.Test.YtgnffeajpmniiaaHR
namespace Go.Sx.T
open Go Go.Proofs Go.Sx
set_option maxRecDepth 100000
set_option maxHeartbeats 4000000
set_option linter.unusedVariables false
set_option linter.unusedSimpArgs false
def placeL (s : List Std) (id to : Int) (at' : Nat) : List Std :=
  if isK s Std.Shelf to = true then s.set (posK s Std.Shelf to) ⟨to, (boxesOf s to).insertIdx at' id⟩ else s.insertIdx (posK s Std.Shelf to) ⟨to, [id]⟩
def placeQ (l : List Shf) (b : List Box) (s : List Std) (x0 x1 x2 : Int) : List Std × Int :=
  if isK b Box.ID x0 = false ∨ isK l Shf.ID x1 = false then ([], 7) else if 0 ≤ (findP x0 0 s).1 then ([], 11) else if inB x2 0 (boxesOf s x1).length = false then ([], 2)
  else if (atK b Box.ID x0).Climate ≠ (atK l Shf.ID x1).Climate then ([], 10) else if roomI b s (atK l Shf.ID x1) < (atK b Box.ID x0).Width then ([], 12) else (placeL s x0 x1 x2.toNat, 0)
def placeR (l : List Shf) (b : List Box) (s : List Std) (x0 x1 x2 : Int) : List Std × Int := if checkS l b s ≠ 0 then ([], 1) else placeQ l b s x0 x1 x2
theorem s57n (x0 : Int) : SpecOwn Try.prog 57 [.val (.slice none 0 0), .int .i64 0, .lst 1 1 (cutRows 1 [SV.int .i64 x0])] 3 1 1 fun i => [SV.int .i64 ([x0].getD i 0)] := by
  refine specOwn_of_good mixed Try.func57 F57_ok (by kernel_rfl) ?_
  refine good_run 26 (obs := [(0 : Int) = (0 : Int) ∧ (0 : Int) = (0 : Int)]) (by kernel_rfl) ?_ ?_
  · exact ⟨⟨rfl, rfl⟩, trivial⟩
  refine good_cond false (by kernel_rfl) (fun h => nomatch h) (fun _ => ?_)
  refine good_run 16 (obs := []) (by kernel_rfl) trivial ?_
  refine good_cond true (by kernel_rfl) (fun _ => ?_) (fun h => nomatch h)
  refine good_run 10 (obs := [(1 : Nat) = (1 : Nat) ∧ roomOK (1 : Nat) (8 : Nat)]) (by kernel_rfl) (by (first | omega | assumption | exact ⟨rfl, trivial⟩ | simp only [AllP, inK_iff, roomOK_iff, decide_eq_true_eq, Bool.and_eq_true, Bool.or_eq_true, Bool.not_eq_true', decide_eq_false_iff_not, and_true, true_and]; (first | omega | (and_intros <;> intros <;> (try and_intros) <;> first | omega | assumption | exact trivial)))) ?_
  refine good_finOwn [(1 : Nat) = (1 : Nat) ∧ ∀ (j : Nat), j < (1 : Nat) → cutRows (1 : Nat) [SV.int IntKind.i64 x0] j = (fun i => [SV.int IntKind.i64 (List.getD [x0] i (0 : Int))]) j] (by kernel_rfl) ⟨?_, trivial⟩
  refine ⟨rfl, fun j hj => ?_⟩
  obtain rfl : j = 0 := by omega
  rfl
theorem getD_insertIdx {α : Type} (d : α) (L : List α) (k : Nat) (v : α) (hk : k ≤ L.length) (i : Nat) : (L.insertIdx k v).getD i d = if i < k then L.getD i d else if i = k then v else L.getD (i - 1) d := by
  rw [List.getD_eq_getElem?_getD, List.getElem?_insertIdx]
  split
  · rw [List.getD_eq_getElem?_getD]
  · split
    · rename_i h; subst h; rw [if_pos hk]; rfl
    · rw [List.getD_eq_getElem?_getD]
theorem ins_ints (L : List Int) (k : Nat) (v : Int) (hk : k ≤ L.length) : (insGet k [SV.int .i64 v] fun i => [SV.int .i64 (L.getD i 0)]) = fun i => [SV.int .i64 ((L.insertIdx k v).getD i 0)] := by
  funext i
  rw [getD_insertIdx 0 L k v hk i]
  unfold insGet
  split
  · rfl
  · split <;> rfl
theorem placed_cells {s : List Std} {p : Nat} {x0 x1 : Int} {k : Nat} (v : Value) (hp : p < s.length) (hpp : posK s Std.Shelf x1 = p) (g2 : isK s Std.Shelf x1 = true) (g5 : (s.getD p default).Shelf = x1) (e1 : boxesOf s x1 = (s.getD p default).Boxes) (hk : k ≤ (s.getD p default).Boxes.length) :
    s.length = (placeL s x0 x1 k).length ∧ ∀ i, i < s.length → (fun j => if j = p then lay (holeRow s p v p) 1 [SV.lst 1 ((s.getD p default).Boxes.length + 1) (insGet k (cutRows 1 [SV.int .i64 x0] 0) fun i => [SV.int .i64 ((s.getD p default).Boxes.getD i 0)])] else holeRow s p v j) i =
      (fun i => ((placeL s x0 x1 k).getD i default).cells) i := by
  have e : placeL s x0 x1 k = s.set p ⟨x1, (s.getD p default).Boxes.insertIdx k x0⟩ := by rw [placeL, if_pos g2, hpp, e1]
  rw [e]
  refine ⟨by simp, fun i hi => ?_⟩
  show (if i = p then _ else _) = ((s.set p _).getD i default).cells
  rw [getD_set _ _ _ _ hp]
  split
  · show [SV.int .i64 (s.getD p default).Shelf, SV.lst 1 ((s.getD p default).Boxes.length + 1) (insGet k [SV.int .i64 x0] fun i => [SV.int .i64 ((s.getD p default).Boxes.getD i 0)])] = [SV.int .i64 x1, SV.lst 1 ((s.getD p default).Boxes.insertIdx k x0).length fun i => [SV.int .i64 (((s.getD p default).Boxes.insertIdx k x0).getD i 0)]]
    rw [ins_ints _ _ _ hk, List.length_insertIdx, if_pos hk, g5]
  · rename_i hne
    unfold holeRow
    rw [holeC_ne hne]; rfl
def insC (s : List Std) (p : Nat) (x1 : Int) (k : Nat) : SV := if k = p then .val (.slice none 0 0) else ints ((s.insertIdx p ⟨x1, []⟩).getD k default).Boxes
def insRow (s : List Std) (p : Nat) (x1 : Int) (k : Nat) : List SV := [.int .i64 ((s.insertIdx p ⟨x1, []⟩).getD k default).Shelf, insC s p x1 k]
theorem insC_own {s : List Std} {p : Nat} {x1 : Int} : SVle (insC s p x1 p) (.val (.slice none 0 0)) := by rw [insC, if_pos rfl]; exact SVle.refl _
theorem insRow_le {s : List Std} {p : Nat} {x1 : Int} (hp : p ≤ s.length) (k : Nat) : SVles (insGet ((p : Int)).toNat (cutRows 2 [SV.int .i64 x1, SV.val (Value.slice none 0 0)] 0) (fun i => (s.getD i default).cells) k) (insRow s p x1 k) := by
  unfold insRow insC insGet
  rw [getD_insertIdx default s p _ hp k, Int.toNat_natCast]
  by_cases h1 : k < p
  · rw [if_pos h1, if_pos h1, if_neg (by omega)]
    exact SVles.refl _
  · by_cases h2 : k = p
    · subst h2
      rw [if_neg h1, if_pos rfl, if_neg h1, if_pos rfl, if_pos rfl]
      exact ⟨SVle.refl _, SVle.refl _, trivial⟩
    · rw [if_neg h1, if_neg h2, if_neg h1, if_neg h2, if_neg h2]
      exact SVles.refl _
theorem placed_new {s : List Std} {p : Nat} {x0 x1 : Int} (hpl : p ≤ s.length) (hpp : posK s Std.Shelf x1 = p) (g2 : isK s Std.Shelf x1 = false) :
    s.length + 1 = (placeL s x0 x1 (Int.toNat 0)).length ∧ ∀ i, i < s.length + 1 → (fun j => if j = p then lay ((fun k => insRow s p x1 k) p) 1 [SV.lst 1 1 fun i => [SV.int .i64 ([x0].getD i 0)]] else (fun k => insRow s p x1 k) j) i =
      (fun i => ((placeL s x0 x1 (Int.toNat 0)).getD i default).cells) i := by
  have e : placeL s x0 x1 (Int.toNat 0) = s.insertIdx p ⟨x1, [x0]⟩ := by rw [placeL, if_neg (by rw [g2]; decide), hpp]
  rw [e]
  refine ⟨by rw [List.length_insertIdx, if_pos hpl], fun i hi => ?_⟩
  show (if i = p then _ else _) = ((s.insertIdx p _).getD i default).cells
  rw [getD_insertIdx default s p _ hpl i]
  by_cases h : i = p
  · subst h
    rw [if_pos rfl, if_neg (by omega), if_pos rfl]
    show [SV.int .i64 ((s.insertIdx i ⟨x1, []⟩).getD i default).Shelf, SV.lst 1 1 fun i => [SV.int .i64 ([x0].getD i 0)]] = [SV.int .i64 x1, SV.lst 1 1 fun i => [SV.int .i64 ([x0].getD i 0)]]
    rw [getD_insertIdx default s i _ hpl i, if_neg (by omega), if_pos rfl]
  · rw [if_neg h, if_neg h]
    show insRow s p x1 i = _
    unfold insRow insC
    rw [if_neg h, getD_insertIdx default s p _ hpl i, if_neg h]
    rfl
theorem s28 (l : List Shf) (b : List Box) (s : List Std) (x0 x1 x2 : Int) (hs : s.length ≤ 100) (hx : ∀ y ∈ s, y.Boxes.length ≤ 1000) :
    Spec Try.prog 28 [shfs l, boxes b, stds s, .agg [.int .i64 x0, .int .i64 x1, .int .i64 x2]] (.tup [stds (placeR l b s x0 x1 x2).1, .int .i64 (placeR l b s x0 x1 x2).2]) := by
  refine spec_of_good mixed Try.func28 F28_ok (by kernel_rfl) ?_
  have hs' : s.length ≤ 100000 := by omega
  have hx' : ∀ y ∈ s, y.Boxes.length ≤ 100000 := fun y hy => by have := hx y hy; omega
  by_cases h : checkS l b s = 0
  · have hR := right_of h
    have al := hR.al
    have ab := hR.ab
    have wb := hR.wb
    have has := hR.as'
    have l32 : l.length ≤ 100000 := by have := hR.l32; omega
    have b128 : b.length ≤ 100000 := by have := hR.b128; omega
    have s43a := s43 l b s hs' hx' h
    have hlen := atK_len hR.okl x1
    have h00 := hlen.1
    have h01 := hlen.2
    have hrb := roomI_bound wb hx' h00 h01
    have hwb := wOK_at wb x0
    have e : placeR l b s x0 x1 x2 = placeQ l b s x0 x1 x2 := by rw [placeR, if_neg (fun g => g h)]
    have e0 : placeQ l b s x0 x1 x2 = if isK b Box.ID x0 = false ∨ isK l Shf.ID x1 = false then ([], 7) else if 0 ≤ (findP x0 0 s).1 then ([], 11) else if inB x2 0 (boxesOf s x1).length = false then ([], 2)
      else if (atK b Box.ID x0).Climate ≠ (atK l Shf.ID x1).Climate then ([], 10) else if roomI b s (atK l Shf.ID x1) < (atK b Box.ID x0).Width then ([], 12) else (placeL s x0 x1 x2.toNat, 0) := rfl
    rw [e]
    rcases hasK_cases has x1 with ⟨g1, g2, g3, _⟩ | ⟨hp, g1, g2, g3, _, g5⟩
    · have e1 : boxesOf s x1 = [] := by rw [boxesOf, g3]; rfl
      rw [e1] at e0
      have s54a : Spec Try.prog 54 [store l b s, .int .i64 x1] (.tup [.int .i64 (posK s Std.Shelf x1), .bool false]) := g1 ▸ s54 l b s x1 has hs'
      have hpl := posK_le s Std.Shelf x1
      rw [show ((([] : List Int).length : Nat) : Int) = 0 from rfl] at e0
      generalize hpp : posK s Std.Shelf x1 = p at *
      refine good_run 12 (obs := []) (by kernel_rfl) trivial ?_
      refine good_call (c := True) (by kernel_rfl) (fun _ => SVles.refl _) (fun _ => s43a) (by kernel_rfl) ?_
      refine good_run 15 (obs := [(3 : Nat) = (3 : Nat) ∧ (0 : Nat) + (3 : Nat) ≤ (3 : Nat)]) (by kernel_rfl) (by (first | omega | assumption | exact ⟨rfl, trivial⟩ | simp only [AllP, inK_iff, roomOK_iff, decide_eq_true_eq, Bool.and_eq_true, Bool.or_eq_true, Bool.not_eq_true', decide_eq_false_iff_not, and_true, true_and]; (first | omega | (and_intros <;> intros <;> (try and_intros) <;> first | omega | assumption | exact trivial)))) ?_
      refine good_cond false (by kernel_rfl) (fun h => nomatch h) (fun _ => ?_)
      refine good_run 6 (obs := [(0 : Nat) + (3 : Nat) ≤ (3 : Nat), (0 : Int) ≤ (0 : Int) ∧ (0 : Int) < (3 : Int)]) (by kernel_rfl) (by (first | omega | assumption | exact ⟨rfl, trivial⟩ | simp only [AllP, inK_iff, roomOK_iff, decide_eq_true_eq, Bool.and_eq_true, Bool.or_eq_true, Bool.not_eq_true', decide_eq_false_iff_not, and_true, true_and]; (first | omega | (and_intros <;> intros <;> (try and_intros) <;> first | omega | assumption | exact trivial)))) ?_
      refine good_call (c := True) (by kernel_rfl) (fun _ => SVles.refl _) (fun _ => s52 (l) (b) (s) (x0) (by (first | omega | assumption | exact ⟨rfl, trivial⟩ | simp only [AllP, inK_iff, roomOK_iff, decide_eq_true_eq, Bool.and_eq_true, Bool.or_eq_true, Bool.not_eq_true', decide_eq_false_iff_not, and_true, true_and]; (first | omega | (and_intros <;> intros <;> (try and_intros) <;> first | omega | assumption | exact trivial)))) (by (first | omega | assumption | exact ⟨rfl, trivial⟩ | simp only [AllP, inK_iff, roomOK_iff, decide_eq_true_eq, Bool.and_eq_true, Bool.or_eq_true, Bool.not_eq_true', decide_eq_false_iff_not, and_true, true_and]; (first | omega | (and_intros <;> intros <;> (try and_intros) <;> first | omega | assumption | exact trivial))))) (by kernel_rfl) ?_
      refine good_run 13 (obs := [(5 : Nat) = (5 : Nat) ∧ (0 : Nat) + (5 : Nat) ≤ (5 : Nat), (0 : Nat) + (3 : Nat) ≤ (3 : Nat), (0 : Int) ≤ (1 : Int) ∧ (1 : Int) < (3 : Int)]) (by kernel_rfl) (by (first | omega | assumption | exact ⟨rfl, trivial⟩ | simp only [AllP, inK_iff, roomOK_iff, decide_eq_true_eq, Bool.and_eq_true, Bool.or_eq_true, Bool.not_eq_true', decide_eq_false_iff_not, and_true, true_and]; (first | omega | (and_intros <;> intros <;> (try and_intros) <;> first | omega | assumption | exact trivial)))) ?_
      refine good_call (c := True) (by kernel_rfl) (fun _ => SVles.refl _) (fun _ => s44 (l) (b) (s) (x1) (by (first | omega | assumption | exact ⟨rfl, trivial⟩ | simp only [AllP, inK_iff, roomOK_iff, decide_eq_true_eq, Bool.and_eq_true, Bool.or_eq_true, Bool.not_eq_true', decide_eq_false_iff_not, and_true, true_and]; (first | omega | (and_intros <;> intros <;> (try and_intros) <;> first | omega | assumption | exact trivial)))) (by (first | omega | assumption | exact ⟨rfl, trivial⟩ | simp only [AllP, inK_iff, roomOK_iff, decide_eq_true_eq, Bool.and_eq_true, Bool.or_eq_true, Bool.not_eq_true', decide_eq_false_iff_not, and_true, true_and]; (first | omega | (and_intros <;> intros <;> (try and_intros) <;> first | omega | assumption | exact trivial))))) (by kernel_rfl) ?_
      refine good_run 13 (obs := [(4 : Nat) = (4 : Nat) ∧ (0 : Nat) + (4 : Nat) ≤ (4 : Nat), (0 : Nat) + (3 : Nat) ≤ (3 : Nat), (0 : Int) ≤ (1 : Int) ∧ (1 : Int) < (3 : Int)]) (by kernel_rfl) (by (first | omega | assumption | exact ⟨rfl, trivial⟩ | simp only [AllP, inK_iff, roomOK_iff, decide_eq_true_eq, Bool.and_eq_true, Bool.or_eq_true, Bool.not_eq_true', decide_eq_false_iff_not, and_true, true_and]; (first | omega | (and_intros <;> intros <;> (try and_intros) <;> first | omega | assumption | exact trivial)))) ?_
      refine good_call (c := True) (by kernel_rfl) (fun _ => SVles.refl _) (fun _ => s54a) (by kernel_rfl) ?_
      refine good_run 18 (obs := []) (by kernel_rfl) trivial ?_
      refine good_cond false (by kernel_rfl) (fun h => nomatch h) (fun _ => ?_)
      refine good_run 6 (obs := [(0 : Nat) + (3 : Nat) ≤ (3 : Nat), (0 : Int) ≤ (0 : Int) ∧ (0 : Int) < (3 : Int)]) (by kernel_rfl) (by (first | omega | assumption | exact ⟨rfl, trivial⟩ | simp only [AllP, inK_iff, roomOK_iff, decide_eq_true_eq, Bool.and_eq_true, Bool.or_eq_true, Bool.not_eq_true', decide_eq_false_iff_not, and_true, true_and]; (first | omega | (and_intros <;> intros <;> (try and_intros) <;> first | omega | assumption | exact trivial)))) ?_
      refine good_call (c := True) (by kernel_rfl) (fun _ => SVles.refl _) (fun _ => s53 (l) (b) (s) (x0) (by (first | omega | assumption | exact ⟨rfl, trivial⟩ | simp only [AllP, inK_iff, roomOK_iff, decide_eq_true_eq, Bool.and_eq_true, Bool.or_eq_true, Bool.not_eq_true', decide_eq_false_iff_not, and_true, true_and]; (first | omega | (and_intros <;> intros <;> (try and_intros) <;> first | omega | assumption | exact trivial))))) (by kernel_rfl) ?_
      refine good_run 20 (obs := []) (by kernel_rfl) trivial ?_
      refine good_cond (!isK b Box.ID x0 || !isK l Shf.ID x1) (by kernel_rfl) (fun hc1 => ?_) (fun hc1 => ?_)
      · rw [if_pos (by simpa using hc1)] at e0
        rw [e0]
        refine good_run 9 (obs := []) (by kernel_rfl) trivial ?_
        refine good_fin [(0 : Nat) = (0 : Nat), (7 : Int) = (7 : Int)] (by kernel_rfl) ⟨rfl, rfl, trivial⟩
      · simp only [Bool.or_eq_false_iff, Bool.not_eq_false'] at hc1
        rw [if_neg (by rw [hc1.1, hc1.2]; decide)] at e0
        refine good_run 7 (obs := []) (by kernel_rfl) trivial ?_
        refine good_cond (decide ((0 : Int) ≤ (findP x0 (0 : Nat) s).fst)) (by kernel_rfl) (fun hc2 => ?_) (fun hc2 => ?_)
        · simp only [decide_eq_true_eq] at hc2
          rw [if_pos (by omega)] at e0
          rw [e0]
          refine good_run 9 (obs := []) (by kernel_rfl) trivial ?_
          refine good_fin [(0 : Nat) = (0 : Nat), (11 : Int) = (11 : Int)] (by kernel_rfl) ⟨rfl, rfl, trivial⟩
        · simp only [decide_eq_false_iff_not] at hc2
          rw [if_neg (by omega)] at e0
          refine good_run 5 (obs := [(0 : Int) ≤ (2 : Int) ∧ (2 : Int) < (3 : Int)]) (by kernel_rfl) (by (first | omega | assumption | exact ⟨rfl, trivial⟩ | simp only [AllP, inK_iff, roomOK_iff, decide_eq_true_eq, Bool.and_eq_true, Bool.or_eq_true, Bool.not_eq_true', decide_eq_false_iff_not, and_true, true_and]; (first | omega | (and_intros <;> intros <;> (try and_intros) <;> first | omega | assumption | exact trivial)))) ?_
          refine good_call (c := True) (by kernel_rfl) (fun _ => SVles.refl _) (fun _ => s38 (x2) ((0 : Int)) ((0 : Int))) (by kernel_rfl) ?_
          refine good_run 4 (obs := []) (by kernel_rfl) trivial ?_
          refine good_cond (!inB x2 (0 : Int) (0 : Int)) (by kernel_rfl) (fun hc3 => ?_) (fun hc3 => ?_)
          · simp only [Bool.not_eq_true'] at hc3
            rw [if_pos hc3] at e0
            rw [e0]
            refine good_run 9 (obs := []) (by kernel_rfl) trivial ?_
            refine good_fin [(0 : Nat) = (0 : Nat), (2 : Int) = (2 : Int)] (by kernel_rfl) ⟨rfl, rfl, trivial⟩
          · simp only [Bool.not_eq_false'] at hc3
            rw [if_neg (by rw [hc3]; decide)] at e0
            refine good_run 10 (obs := []) (by kernel_rfl) trivial ?_
            refine good_cond (!decide ((atK b Box.ID x0).Climate = (atK l Shf.ID x1).Climate)) (by kernel_rfl) (fun hc4 => ?_) (fun hc4 => ?_)
            · simp only [Bool.not_eq_true', decide_eq_false_iff_not] at hc4
              rw [if_pos hc4] at e0
              rw [e0]
              refine good_run 9 (obs := []) (by kernel_rfl) trivial ?_
              refine good_fin [(0 : Nat) = (0 : Nat), (10 : Int) = (10 : Int)] (by kernel_rfl) ⟨rfl, rfl, trivial⟩
            · simp only [Bool.not_eq_false', decide_eq_true_eq] at hc4
              rw [if_neg (fun h => h hc4)] at e0
              refine good_run 6 (obs := [True → (0 : Nat) + (3 : Nat) ≤ (3 : Nat), True → (0 : Nat) + (4 : Nat) ≤ (4 : Nat)]) (by kernel_rfl) (by (first | omega | assumption | exact ⟨rfl, trivial⟩ | simp only [AllP, inK_iff, roomOK_iff, decide_eq_true_eq, Bool.and_eq_true, Bool.or_eq_true, Bool.not_eq_true', decide_eq_false_iff_not, and_true, true_and]; (first | omega | (and_intros <;> intros <;> (try and_intros) <;> first | omega | assumption | exact trivial)))) ?_
              refine good_call (c := True) (by kernel_rfl) (fun _ => SVles.refl _) (fun _ => s45 (l) (b) (s) (atK l Shf.ID x1) (by (first | omega | assumption | exact ⟨rfl, trivial⟩ | simp only [AllP, inK_iff, roomOK_iff, decide_eq_true_eq, Bool.and_eq_true, Bool.or_eq_true, Bool.not_eq_true', decide_eq_false_iff_not, and_true, true_and]; (first | omega | (and_intros <;> intros <;> (try and_intros) <;> first | omega | assumption | exact trivial)))) (by (first | omega | assumption | exact ⟨rfl, trivial⟩ | simp only [AllP, inK_iff, roomOK_iff, decide_eq_true_eq, Bool.and_eq_true, Bool.or_eq_true, Bool.not_eq_true', decide_eq_false_iff_not, and_true, true_and]; (first | omega | (and_intros <;> intros <;> (try and_intros) <;> first | omega | assumption | exact trivial)))) (by (first | omega | assumption | exact ⟨rfl, trivial⟩ | simp only [AllP, inK_iff, roomOK_iff, decide_eq_true_eq, Bool.and_eq_true, Bool.or_eq_true, Bool.not_eq_true', decide_eq_false_iff_not, and_true, true_and]; (first | omega | (and_intros <;> intros <;> (try and_intros) <;> first | omega | assumption | exact trivial)))) (by (first | omega | assumption | exact ⟨rfl, trivial⟩ | simp only [AllP, inK_iff, roomOK_iff, decide_eq_true_eq, Bool.and_eq_true, Bool.or_eq_true, Bool.not_eq_true', decide_eq_false_iff_not, and_true, true_and]; (first | omega | (and_intros <;> intros <;> (try and_intros) <;> first | omega | assumption | exact trivial)))) (by (first | omega | assumption | exact ⟨rfl, trivial⟩ | simp only [AllP, inK_iff, roomOK_iff, decide_eq_true_eq, Bool.and_eq_true, Bool.or_eq_true, Bool.not_eq_true', decide_eq_false_iff_not, and_true, true_and]; (first | omega | (and_intros <;> intros <;> (try and_intros) <;> first | omega | assumption | exact trivial)))) (by (first | omega | assumption | exact ⟨rfl, trivial⟩ | simp only [AllP, inK_iff, roomOK_iff, decide_eq_true_eq, Bool.and_eq_true, Bool.or_eq_true, Bool.not_eq_true', decide_eq_false_iff_not, and_true, true_and]; (first | omega | (and_intros <;> intros <;> (try and_intros) <;> first | omega | assumption | exact trivial)))) (by (first | omega | assumption | exact ⟨rfl, trivial⟩ | simp only [AllP, inK_iff, roomOK_iff, decide_eq_true_eq, Bool.and_eq_true, Bool.or_eq_true, Bool.not_eq_true', decide_eq_false_iff_not, and_true, true_and]; (first | omega | (and_intros <;> intros <;> (try and_intros) <;> first | omega | assumption | exact trivial)))) (by (first | omega | assumption | exact ⟨rfl, trivial⟩ | simp only [AllP, inK_iff, roomOK_iff, decide_eq_true_eq, Bool.and_eq_true, Bool.or_eq_true, Bool.not_eq_true', decide_eq_false_iff_not, and_true, true_and]; (first | omega | (and_intros <;> intros <;> (try and_intros) <;> first | omega | assumption | exact trivial))))) (by kernel_rfl) ?_
              refine good_run 4 (obs := []) (by kernel_rfl) trivial ?_
              refine good_cond (decide (roomI b s (atK l Shf.ID x1) < (atK b Box.ID x0).Width)) (by kernel_rfl) (fun hc5 => ?_) (fun hc5 => ?_)
              · simp only [decide_eq_true_eq] at hc5
                rw [if_pos (by omega)] at e0
                rw [e0]
                refine good_run 9 (obs := []) (by kernel_rfl) trivial ?_
                refine good_fin [(0 : Nat) = (0 : Nat), (12 : Int) = (12 : Int)] (by kernel_rfl) ⟨rfl, rfl, trivial⟩
              · simp only [decide_eq_false_iff_not] at hc5
                rw [if_neg (by omega)] at e0
                rw [e0]
                obtain rfl : x2 = 0 := by
                  simp only [inB, Bool.and_eq_true, decide_eq_true_eq] at hc3
                  omega
                refine good_run 5 (obs := []) (by kernel_rfl) trivial ?_
                refine good_own (c := True) (by kernel_rfl) (by kernel_rfl) (SVles.refl _) (s55 s hs' hx') ?_
                refine good_run 10 (obs := []) (by kernel_rfl) trivial ?_
                refine good_cond true (by kernel_rfl) (fun _ => ?_) (fun h => nomatch h)
                refine good_run 7 (obs := [(0 : Int) ≤ (1 : Int) ∧ (1 : Int) < (3 : Int)]) (by kernel_rfl) (by (first | omega | assumption | exact ⟨rfl, trivial⟩ | simp only [AllP, inK_iff, roomOK_iff, decide_eq_true_eq, Bool.and_eq_true, Bool.or_eq_true, Bool.not_eq_true', decide_eq_false_iff_not, and_true, true_and]; (first | omega | (and_intros <;> intros <;> (try and_intros) <;> first | omega | assumption | exact trivial)))) ?_
                refine good_take (by kernel_rfl) (SVles.refl _) (SVles.refl _) (s56 s.length (fun i => (s.getD i default).cells) (cutRows 2 [SV.int .i64 x1, SV.val (Value.slice none 0 0)]) (p : Int) (by omega) (by omega) (by omega)) ?_
                refine good_row 4 (t := (47 : Nat)) (sz := (2 : Nat)) (n := List.length s + (1 : Nat)) (mu := true) (get := insGet p (cutRows (2 : Nat) [SV.int IntKind.i64 x1, SV.val (Value.slice none (0 : Nat) (0 : Nat))] (0 : Nat)) fun i => Std.cells (List.getD s i default)) (fun k => insRow s p x1 k) (by kernel_rfl) (fun k hk => insRow_le hpl k) ?_
                refine good_run 10 (obs := []) (by kernel_rfl) trivial ?_
                refine good_split [0, 1, 2, 3, 4, 5, 6, 7, 8, 9, 10, 11] (by kernel_rfl) ?_
                refine good_set [7, 16, 21, 107, 108, 109, 110, 111, 112, 113, 114, 115, 116, 117, 118, 119, 120, 121] [] [(2 : Nat) = (2 : Nat) ∧ (0 : Int) ≤ (↑p : Int) ∧ (↑p : Int) < (↑(List.length s + (1 : Nat)) : Int), (0 : Int) ≤ (2 : Int) ∧ (2 : Int) < (3 : Int), (0 : Int) ≤ (0 : Int) ∧ (0 : Int) < (3 : Int)] (by kernel_rfl) ⟨(by (first | omega | assumption | exact ⟨rfl, trivial⟩ | simp only [AllP, inK_iff, roomOK_iff, decide_eq_true_eq, Bool.and_eq_true, Bool.or_eq_true, Bool.not_eq_true', decide_eq_false_iff_not, and_true, true_and]; (first | omega | (and_intros <;> intros <;> (try and_intros) <;> first | omega | assumption | exact trivial)))), (by (first | omega | assumption | exact ⟨rfl, trivial⟩ | simp only [AllP, inK_iff, roomOK_iff, decide_eq_true_eq, Bool.and_eq_true, Bool.or_eq_true, Bool.not_eq_true', decide_eq_false_iff_not, and_true, true_and]; (first | omega | (and_intros <;> intros <;> (try and_intros) <;> first | omega | assumption | exact trivial)))), (by (first | omega | assumption | exact ⟨rfl, trivial⟩ | simp only [AllP, inK_iff, roomOK_iff, decide_eq_true_eq, Bool.and_eq_true, Bool.or_eq_true, Bool.not_eq_true', decide_eq_false_iff_not, and_true, true_and]; (first | omega | (and_intros <;> intros <;> (try and_intros) <;> first | omega | assumption | exact trivial)))), trivial⟩ ?_
                refine good_run 1 (obs := []) (by kernel_rfl) trivial ?_
                refine good_sv 113 (a := insC s p x1 p) (.val (.slice none 0 0)) (by kernel_rfl) (insC_own) ?_
                refine good_own (c := True) (by kernel_rfl) (by kernel_rfl) (SVles.refl _) (s57n x0) ?_
                refine good_run 20 (obs := [(2 : Nat) = (2 : Nat) ∧ (0 : Int) ≤ (↑p : Int) ∧ (↑p : Int) < (↑(List.length s + (1 : Nat)) : Int), (1 : Nat) = (1 : Nat) ∧ (1 : Nat) + (1 : Nat) ≤ (2 : Nat)]) (by kernel_rfl) (by (first | omega | assumption | exact ⟨rfl, trivial⟩ | simp only [AllP, inK_iff, roomOK_iff, decide_eq_true_eq, Bool.and_eq_true, Bool.or_eq_true, Bool.not_eq_true', decide_eq_false_iff_not, and_true, true_and]; (first | omega | (and_intros <;> intros <;> (try and_intros) <;> first | omega | assumption | exact trivial)))) ?_
                refine good_fin [List.length s + (1 : Nat) = List.length (placeL s x0 x1 (Int.toNat (0 : Int)), (0 : Int)).fst ∧ ∀ (i : Nat), i < List.length s + (1 : Nat) → (fun j => if j = p then lay ((fun k => insRow s p x1 k) p) (1 : Nat) [SV.lst (1 : Nat) (1 : Nat) fun i => [SV.int IntKind.i64 (List.getD [x0] i (0 : Int))]] else (fun k => insRow s p x1 k) j) i = (fun i => Std.cells (List.getD (placeL s x0 x1 (Int.toNat (0 : Int)), (0 : Int)).fst i default)) i, (0 : Int) = (0 : Int)] (by kernel_rfl) ⟨?_, rfl, trivial⟩
                exact placed_new hpl hpp g2
    · have e1 : boxesOf s x1 = (s.getD (posK s Std.Shelf x1) default).Boxes := by rw [boxesOf, g3]
      rw [e1] at e0
      have hxk := hx _ (getD_mem s default _ hp)
      have s54a : Spec Try.prog 54 [store l b s, .int .i64 x1] (.tup [.int .i64 (posK s Std.Shelf x1), .bool true]) := g1 ▸ s54 l b s x1 has hs'
      generalize hpp : posK s Std.Shelf x1 = p at *
      refine good_run 12 (obs := []) (by kernel_rfl) trivial ?_
      refine good_call (c := True) (by kernel_rfl) (fun _ => SVles.refl _) (fun _ => s43a) (by kernel_rfl) ?_
      refine good_run 15 (obs := [(3 : Nat) = (3 : Nat) ∧ (0 : Nat) + (3 : Nat) ≤ (3 : Nat)]) (by kernel_rfl) (by (first | omega | assumption | exact ⟨rfl, trivial⟩ | simp only [AllP, inK_iff, roomOK_iff, decide_eq_true_eq, Bool.and_eq_true, Bool.or_eq_true, Bool.not_eq_true', decide_eq_false_iff_not, and_true, true_and]; (first | omega | (and_intros <;> intros <;> (try and_intros) <;> first | omega | assumption | exact trivial)))) ?_
      refine good_cond false (by kernel_rfl) (fun h => nomatch h) (fun _ => ?_)
      refine good_run 6 (obs := [(0 : Nat) + (3 : Nat) ≤ (3 : Nat), (0 : Int) ≤ (0 : Int) ∧ (0 : Int) < (3 : Int)]) (by kernel_rfl) (by (first | omega | assumption | exact ⟨rfl, trivial⟩ | simp only [AllP, inK_iff, roomOK_iff, decide_eq_true_eq, Bool.and_eq_true, Bool.or_eq_true, Bool.not_eq_true', decide_eq_false_iff_not, and_true, true_and]; (first | omega | (and_intros <;> intros <;> (try and_intros) <;> first | omega | assumption | exact trivial)))) ?_
      refine good_call (c := True) (by kernel_rfl) (fun _ => SVles.refl _) (fun _ => s52 (l) (b) (s) (x0) (by (first | omega | assumption | exact ⟨rfl, trivial⟩ | simp only [AllP, inK_iff, roomOK_iff, decide_eq_true_eq, Bool.and_eq_true, Bool.or_eq_true, Bool.not_eq_true', decide_eq_false_iff_not, and_true, true_and]; (first | omega | (and_intros <;> intros <;> (try and_intros) <;> first | omega | assumption | exact trivial)))) (by (first | omega | assumption | exact ⟨rfl, trivial⟩ | simp only [AllP, inK_iff, roomOK_iff, decide_eq_true_eq, Bool.and_eq_true, Bool.or_eq_true, Bool.not_eq_true', decide_eq_false_iff_not, and_true, true_and]; (first | omega | (and_intros <;> intros <;> (try and_intros) <;> first | omega | assumption | exact trivial))))) (by kernel_rfl) ?_
      refine good_run 13 (obs := [(5 : Nat) = (5 : Nat) ∧ (0 : Nat) + (5 : Nat) ≤ (5 : Nat), (0 : Nat) + (3 : Nat) ≤ (3 : Nat), (0 : Int) ≤ (1 : Int) ∧ (1 : Int) < (3 : Int)]) (by kernel_rfl) (by (first | omega | assumption | exact ⟨rfl, trivial⟩ | simp only [AllP, inK_iff, roomOK_iff, decide_eq_true_eq, Bool.and_eq_true, Bool.or_eq_true, Bool.not_eq_true', decide_eq_false_iff_not, and_true, true_and]; (first | omega | (and_intros <;> intros <;> (try and_intros) <;> first | omega | assumption | exact trivial)))) ?_
      refine good_call (c := True) (by kernel_rfl) (fun _ => SVles.refl _) (fun _ => s44 (l) (b) (s) (x1) (by (first | omega | assumption | exact ⟨rfl, trivial⟩ | simp only [AllP, inK_iff, roomOK_iff, decide_eq_true_eq, Bool.and_eq_true, Bool.or_eq_true, Bool.not_eq_true', decide_eq_false_iff_not, and_true, true_and]; (first | omega | (and_intros <;> intros <;> (try and_intros) <;> first | omega | assumption | exact trivial)))) (by (first | omega | assumption | exact ⟨rfl, trivial⟩ | simp only [AllP, inK_iff, roomOK_iff, decide_eq_true_eq, Bool.and_eq_true, Bool.or_eq_true, Bool.not_eq_true', decide_eq_false_iff_not, and_true, true_and]; (first | omega | (and_intros <;> intros <;> (try and_intros) <;> first | omega | assumption | exact trivial))))) (by kernel_rfl) ?_
      refine good_run 13 (obs := [(4 : Nat) = (4 : Nat) ∧ (0 : Nat) + (4 : Nat) ≤ (4 : Nat), (0 : Nat) + (3 : Nat) ≤ (3 : Nat), (0 : Int) ≤ (1 : Int) ∧ (1 : Int) < (3 : Int)]) (by kernel_rfl) (by (first | omega | assumption | exact ⟨rfl, trivial⟩ | simp only [AllP, inK_iff, roomOK_iff, decide_eq_true_eq, Bool.and_eq_true, Bool.or_eq_true, Bool.not_eq_true', decide_eq_false_iff_not, and_true, true_and]; (first | omega | (and_intros <;> intros <;> (try and_intros) <;> first | omega | assumption | exact trivial)))) ?_
      refine good_call (c := True) (by kernel_rfl) (fun _ => SVles.refl _) (fun _ => s54a) (by kernel_rfl) ?_
      refine good_run 18 (obs := []) (by kernel_rfl) trivial ?_
      refine good_cond true (by kernel_rfl) (fun _ => ?_) (fun h => nomatch h)
      refine good_run 15 (obs := [(2 : Nat) = (2 : Nat) ∧ (0 : Int) ≤ (↑p : Int) ∧ (↑p : Int) < (↑(List.length s) : Int), (0 : Nat) + (3 : Nat) ≤ (3 : Nat), (0 : Int) ≤ (0 : Int) ∧ (0 : Int) < (3 : Int)]) (by kernel_rfl) (by (first | omega | assumption | exact ⟨rfl, trivial⟩ | simp only [AllP, inK_iff, roomOK_iff, decide_eq_true_eq, Bool.and_eq_true, Bool.or_eq_true, Bool.not_eq_true', decide_eq_false_iff_not, and_true, true_and]; (first | omega | (and_intros <;> intros <;> (try and_intros) <;> first | omega | assumption | exact trivial)))) ?_
      refine good_call (c := True) (by kernel_rfl) (fun _ => SVles.refl _) (fun _ => s53 (l) (b) (s) (x0) (by (first | omega | assumption | exact ⟨rfl, trivial⟩ | simp only [AllP, inK_iff, roomOK_iff, decide_eq_true_eq, Bool.and_eq_true, Bool.or_eq_true, Bool.not_eq_true', decide_eq_false_iff_not, and_true, true_and]; (first | omega | (and_intros <;> intros <;> (try and_intros) <;> first | omega | assumption | exact trivial))))) (by kernel_rfl) ?_
      refine good_run 20 (obs := []) (by kernel_rfl) trivial ?_
      refine good_cond (!isK b Box.ID x0 || !isK l Shf.ID x1) (by kernel_rfl) (fun hc1 => ?_) (fun hc1 => ?_)
      · rw [if_pos (by simpa using hc1)] at e0
        rw [e0]
        refine good_run 9 (obs := []) (by kernel_rfl) trivial ?_
        refine good_fin [(0 : Nat) = (0 : Nat), (7 : Int) = (7 : Int)] (by kernel_rfl) ⟨rfl, rfl, trivial⟩
      · simp only [Bool.or_eq_false_iff, Bool.not_eq_false'] at hc1
        rw [if_neg (by rw [hc1.1, hc1.2]; decide)] at e0
        refine good_run 7 (obs := []) (by kernel_rfl) trivial ?_
        refine good_cond (decide ((0 : Int) ≤ (findP x0 (0 : Nat) s).fst)) (by kernel_rfl) (fun hc2 => ?_) (fun hc2 => ?_)
        · simp only [decide_eq_true_eq] at hc2
          rw [if_pos (by omega)] at e0
          rw [e0]
          refine good_run 9 (obs := []) (by kernel_rfl) trivial ?_
          refine good_fin [(0 : Nat) = (0 : Nat), (11 : Int) = (11 : Int)] (by kernel_rfl) ⟨rfl, rfl, trivial⟩
        · simp only [decide_eq_false_iff_not] at hc2
          rw [if_neg (by omega)] at e0
          refine good_run 5 (obs := [(0 : Int) ≤ (2 : Int) ∧ (2 : Int) < (3 : Int)]) (by kernel_rfl) (by (first | omega | assumption | exact ⟨rfl, trivial⟩ | simp only [AllP, inK_iff, roomOK_iff, decide_eq_true_eq, Bool.and_eq_true, Bool.or_eq_true, Bool.not_eq_true', decide_eq_false_iff_not, and_true, true_and]; (first | omega | (and_intros <;> intros <;> (try and_intros) <;> first | omega | assumption | exact trivial)))) ?_
          refine good_call (c := True) (by kernel_rfl) (fun _ => SVles.refl _) (fun _ => s38 (x2) ((0 : Int)) ((↑(List.length (List.getD s p default).Boxes) : Int))) (by kernel_rfl) ?_
          refine good_run 4 (obs := []) (by kernel_rfl) trivial ?_
          refine good_cond (!inB x2 (0 : Int) (↑(List.length (List.getD s p default).Boxes) : Int)) (by kernel_rfl) (fun hc3 => ?_) (fun hc3 => ?_)
          · simp only [Bool.not_eq_true'] at hc3
            rw [if_pos hc3] at e0
            rw [e0]
            refine good_run 9 (obs := []) (by kernel_rfl) trivial ?_
            refine good_fin [(0 : Nat) = (0 : Nat), (2 : Int) = (2 : Int)] (by kernel_rfl) ⟨rfl, rfl, trivial⟩
          · simp only [Bool.not_eq_false'] at hc3
            rw [if_neg (by rw [hc3]; decide)] at e0
            refine good_run 10 (obs := []) (by kernel_rfl) trivial ?_
            refine good_cond (!decide ((atK b Box.ID x0).Climate = (atK l Shf.ID x1).Climate)) (by kernel_rfl) (fun hc4 => ?_) (fun hc4 => ?_)
            · simp only [Bool.not_eq_true', decide_eq_false_iff_not] at hc4
              rw [if_pos hc4] at e0
              rw [e0]
              refine good_run 9 (obs := []) (by kernel_rfl) trivial ?_
              refine good_fin [(0 : Nat) = (0 : Nat), (10 : Int) = (10 : Int)] (by kernel_rfl) ⟨rfl, rfl, trivial⟩
            · simp only [Bool.not_eq_false', decide_eq_true_eq] at hc4
              rw [if_neg (fun h => h hc4)] at e0
              refine good_run 6 (obs := [True → (0 : Nat) + (3 : Nat) ≤ (3 : Nat), True → (0 : Nat) + (4 : Nat) ≤ (4 : Nat)]) (by kernel_rfl) (by (first | omega | assumption | exact ⟨rfl, trivial⟩ | simp only [AllP, inK_iff, roomOK_iff, decide_eq_true_eq, Bool.and_eq_true, Bool.or_eq_true, Bool.not_eq_true', decide_eq_false_iff_not, and_true, true_and]; (first | omega | (and_intros <;> intros <;> (try and_intros) <;> first | omega | assumption | exact trivial)))) ?_
              refine good_call (c := True) (by kernel_rfl) (fun _ => SVles.refl _) (fun _ => s45 (l) (b) (s) (atK l Shf.ID x1) (by (first | omega | assumption | exact ⟨rfl, trivial⟩ | simp only [AllP, inK_iff, roomOK_iff, decide_eq_true_eq, Bool.and_eq_true, Bool.or_eq_true, Bool.not_eq_true', decide_eq_false_iff_not, and_true, true_and]; (first | omega | (and_intros <;> intros <;> (try and_intros) <;> first | omega | assumption | exact trivial)))) (by (first | omega | assumption | exact ⟨rfl, trivial⟩ | simp only [AllP, inK_iff, roomOK_iff, decide_eq_true_eq, Bool.and_eq_true, Bool.or_eq_true, Bool.not_eq_true', decide_eq_false_iff_not, and_true, true_and]; (first | omega | (and_intros <;> intros <;> (try and_intros) <;> first | omega | assumption | exact trivial)))) (by (first | omega | assumption | exact ⟨rfl, trivial⟩ | simp only [AllP, inK_iff, roomOK_iff, decide_eq_true_eq, Bool.and_eq_true, Bool.or_eq_true, Bool.not_eq_true', decide_eq_false_iff_not, and_true, true_and]; (first | omega | (and_intros <;> intros <;> (try and_intros) <;> first | omega | assumption | exact trivial)))) (by (first | omega | assumption | exact ⟨rfl, trivial⟩ | simp only [AllP, inK_iff, roomOK_iff, decide_eq_true_eq, Bool.and_eq_true, Bool.or_eq_true, Bool.not_eq_true', decide_eq_false_iff_not, and_true, true_and]; (first | omega | (and_intros <;> intros <;> (try and_intros) <;> first | omega | assumption | exact trivial)))) (by (first | omega | assumption | exact ⟨rfl, trivial⟩ | simp only [AllP, inK_iff, roomOK_iff, decide_eq_true_eq, Bool.and_eq_true, Bool.or_eq_true, Bool.not_eq_true', decide_eq_false_iff_not, and_true, true_and]; (first | omega | (and_intros <;> intros <;> (try and_intros) <;> first | omega | assumption | exact trivial)))) (by (first | omega | assumption | exact ⟨rfl, trivial⟩ | simp only [AllP, inK_iff, roomOK_iff, decide_eq_true_eq, Bool.and_eq_true, Bool.or_eq_true, Bool.not_eq_true', decide_eq_false_iff_not, and_true, true_and]; (first | omega | (and_intros <;> intros <;> (try and_intros) <;> first | omega | assumption | exact trivial)))) (by (first | omega | assumption | exact ⟨rfl, trivial⟩ | simp only [AllP, inK_iff, roomOK_iff, decide_eq_true_eq, Bool.and_eq_true, Bool.or_eq_true, Bool.not_eq_true', decide_eq_false_iff_not, and_true, true_and]; (first | omega | (and_intros <;> intros <;> (try and_intros) <;> first | omega | assumption | exact trivial)))) (by (first | omega | assumption | exact ⟨rfl, trivial⟩ | simp only [AllP, inK_iff, roomOK_iff, decide_eq_true_eq, Bool.and_eq_true, Bool.or_eq_true, Bool.not_eq_true', decide_eq_false_iff_not, and_true, true_and]; (first | omega | (and_intros <;> intros <;> (try and_intros) <;> first | omega | assumption | exact trivial))))) (by kernel_rfl) ?_
              refine good_run 4 (obs := []) (by kernel_rfl) trivial ?_
              refine good_cond (decide (roomI b s (atK l Shf.ID x1) < (atK b Box.ID x0).Width)) (by kernel_rfl) (fun hc5 => ?_) (fun hc5 => ?_)
              · simp only [decide_eq_true_eq] at hc5
                rw [if_pos (by omega)] at e0
                rw [e0]
                refine good_run 9 (obs := []) (by kernel_rfl) trivial ?_
                refine good_fin [(0 : Nat) = (0 : Nat), (12 : Int) = (12 : Int)] (by kernel_rfl) ⟨rfl, rfl, trivial⟩
              · simp only [decide_eq_false_iff_not] at hc5
                rw [if_neg (by omega)] at e0
                rw [e0]
                refine good_run 5 (obs := []) (by kernel_rfl) trivial ?_
                refine good_callx [] [] (s55x s p hp (by omega) hx') (by kernel_rfl) (by kernel_rfl) [] [List.length s = List.length s ∧ ∀ (i : Nat), i < List.length s → (fun i => Std.cells (List.getD s i default)) i = (fun i => Std.cells (List.getD s i default)) i] (by kernel_rfl) trivial (by kernel_rfl) ⟨⟨rfl, fun _ _ => rfl⟩, trivial⟩ ?_
                rintro o ⟨A, c, rfl⟩
                refine ⟨trivial, ?_⟩
                refine good_run 10 (obs := []) (by kernel_rfl) trivial ?_
                refine good_cond false (by kernel_rfl) (fun h => nomatch h) (fun _ => ?_)
                refine good_run 8 (obs := []) (by kernel_rfl) trivial ?_
                refine good_split [0, 1, 2, 3, 4, 5, 6, 7, 8, 9, 10, 11] (by kernel_rfl) ?_
                refine good_set [7, 16, 21, 107, 108, 109, 110, 111, 112, 113, 114, 115, 116, 117, 118, 119, 120, 121, 2000005] [] [(2 : Nat) = (2 : Nat) ∧ (0 : Int) ≤ (↑p : Int) ∧ (↑p : Int) < (↑(List.length s) : Int), (0 : Int) ≤ (2 : Int) ∧ (2 : Int) < (3 : Int), (0 : Int) ≤ (0 : Int) ∧ (0 : Int) < (3 : Int)] (by kernel_rfl) ⟨(by (first | omega | assumption | exact ⟨rfl, trivial⟩ | simp only [AllP, inK_iff, roomOK_iff, decide_eq_true_eq, Bool.and_eq_true, Bool.or_eq_true, Bool.not_eq_true', decide_eq_false_iff_not, and_true, true_and]; (first | omega | (and_intros <;> intros <;> (try and_intros) <;> first | omega | assumption | exact trivial)))), (by (first | omega | assumption | exact ⟨rfl, trivial⟩ | simp only [AllP, inK_iff, roomOK_iff, decide_eq_true_eq, Bool.and_eq_true, Bool.or_eq_true, Bool.not_eq_true', decide_eq_false_iff_not, and_true, true_and]; (first | omega | (and_intros <;> intros <;> (try and_intros) <;> first | omega | assumption | exact trivial)))), (by (first | omega | assumption | exact ⟨rfl, trivial⟩ | simp only [AllP, inK_iff, roomOK_iff, decide_eq_true_eq, Bool.and_eq_true, Bool.or_eq_true, Bool.not_eq_true', decide_eq_false_iff_not, and_true, true_and]; (first | omega | (and_intros <;> intros <;> (try and_intros) <;> first | omega | assumption | exact trivial)))), trivial⟩ ?_
                refine good_run 1 (obs := []) (by kernel_rfl) trivial ?_
                have hin : 0 ≤ x2 ∧ x2 ≤ (s.getD p default).Boxes.length := by simpa [inB] using hc3
                have hi0 := hin.1
                have hi1 := hin.2
                refine good_sv 113 (a := holeC s p (Value.slice A (List.length (List.getD s p default).Boxes) c) p) (.val (.slice A (s.getD p default).Boxes.length c)) (by kernel_rfl) (holeC_own) ?_
                refine good_unname 113 5 (Value.slice A (List.length (List.getD s p default).Boxes) c) (by kernel_rfl) ?_
                refine good_take (by kernel_rfl) (SVles.refl _) (SVles.refl _) (s57 (List.length (List.getD s p default).Boxes) (fun i => [SV.int IntKind.i64 (List.getD (List.getD s p default).Boxes i (0 : Int))]) (cutRows (1 : Nat) [SV.int IntKind.i64 x0]) (x2) (by (first | omega | assumption | exact ⟨rfl, trivial⟩ | simp only [AllP, inK_iff, roomOK_iff, decide_eq_true_eq, Bool.and_eq_true, Bool.or_eq_true, Bool.not_eq_true', decide_eq_false_iff_not, and_true, true_and]; (first | omega | (and_intros <;> intros <;> (try and_intros) <;> first | omega | assumption | exact trivial)))) (by (first | omega | assumption | exact ⟨rfl, trivial⟩ | simp only [AllP, inK_iff, roomOK_iff, decide_eq_true_eq, Bool.and_eq_true, Bool.or_eq_true, Bool.not_eq_true', decide_eq_false_iff_not, and_true, true_and]; (first | omega | (and_intros <;> intros <;> (try and_intros) <;> first | omega | assumption | exact trivial)))) (by (first | omega | assumption | exact ⟨rfl, trivial⟩ | simp only [AllP, inK_iff, roomOK_iff, decide_eq_true_eq, Bool.and_eq_true, Bool.or_eq_true, Bool.not_eq_true', decide_eq_false_iff_not, and_true, true_and]; (first | omega | (and_intros <;> intros <;> (try and_intros) <;> first | omega | assumption | exact trivial))))) ?_
                refine good_run 20 (obs := [(2 : Nat) = (2 : Nat) ∧ (0 : Int) ≤ (↑p : Int) ∧ (↑p : Int) < (↑(List.length s) : Int), (1 : Nat) = (1 : Nat) ∧ (1 : Nat) + (1 : Nat) ≤ (2 : Nat)]) (by kernel_rfl) (by (first | omega | assumption | exact ⟨rfl, trivial⟩ | simp only [AllP, inK_iff, roomOK_iff, decide_eq_true_eq, Bool.and_eq_true, Bool.or_eq_true, Bool.not_eq_true', decide_eq_false_iff_not, and_true, true_and]; (first | omega | (and_intros <;> intros <;> (try and_intros) <;> first | omega | assumption | exact trivial)))) ?_
                refine good_fin [List.length s = List.length (placeL s x0 x1 (Int.toNat x2), (0 : Int)).fst ∧ ∀ (i : Nat), i < List.length s → (fun j => if j = p then lay (holeRow s p (Value.slice A (List.length (List.getD s p default).Boxes) c) p) (1 : Nat) [SV.lst (1 : Nat) (List.length (List.getD s p default).Boxes + (1 : Nat)) (insGet (Int.toNat x2) (cutRows (1 : Nat) [SV.int IntKind.i64 x0] (0 : Nat)) fun i => [SV.int IntKind.i64 (List.getD (List.getD s p default).Boxes i (0 : Int))])] else holeRow s p (Value.slice A (List.length (List.getD s p default).Boxes) c) j) i = (fun i => Std.cells (List.getD (placeL s x0 x1 (Int.toNat x2), (0 : Int)).fst i default)) i, (0 : Int) = (0 : Int)] (by kernel_rfl) ⟨?_, rfl, trivial⟩
                exact placed_cells _ hp hpp g2 g5 e1 (by omega)
  · have e : placeR l b s x0 x1 x2 = ([], 1) := by rw [placeR, if_pos h]
    rw [e]
    have s43a := s43a l b s hs' hx' h
    refine good_run 12 (obs := []) (by kernel_rfl) trivial ?_
    refine good_call (c := True) (by kernel_rfl) (fun _ => SVles.refl _) (fun _ => s43a) (by kernel_rfl) ?_
    refine good_run 15 (obs := [(3 : Nat) = (3 : Nat) ∧ (0 : Nat) + (3 : Nat) ≤ (3 : Nat)]) (by kernel_rfl) (by (first | omega | assumption | exact ⟨rfl, trivial⟩ | simp only [AllP, inK_iff, roomOK_iff, decide_eq_true_eq, Bool.and_eq_true, Bool.or_eq_true, Bool.not_eq_true', decide_eq_false_iff_not, and_true, true_and]; (first | omega | (and_intros <;> intros <;> (try and_intros) <;> first | omega | assumption | exact trivial)))) ?_
    refine good_cond true (by kernel_rfl) (fun _ => ?_) (fun h => nomatch h)
    refine good_run 9 (obs := []) (by kernel_rfl) trivial ?_
    refine good_fin [(0 : Nat) = (0 : Nat), (1 : Int) = (1 : Int)] (by kernel_rfl) ⟨rfl, rfl, trivial⟩
end Go.Sx.T
