/- Contracts of functions of the program, each proved by running its code symbolically (H4). -/
import Derived.Test.YtgnffeajpmniiaaH3
namespace Go.Sx.T
open Go Go.Proofs Go.Sx
set_option maxRecDepth 100000
set_option maxHeartbeats 4000000
set_option linter.unusedVariables false
set_option linter.unusedSimpArgs false
/-- The stands that the twin's loop has laid behind k rounds. -/
def outP (s : List Std) (N : Std) (p q k : Nat) : List Std := if k ≤ p then s.take k else s.take p ++ N :: (s.take k).drop q
theorem outP_lt {s : List Std} {N : Std} {p q k : Nat} (h : k < p) (hk : k < s.length) : outP s N p q (k + 1) = outP s N p q k ++ [s.getD k default] := by
  rw [outP, if_pos (by omega), outP, if_pos (by omega), take_snoc s default k hk]
theorem outP_gt {s : List Std} {N : Std} {p q k : Nat} (h : p < k) (hq : q ≤ k) (hk : k < s.length) : outP s N p q (k + 1) = outP s N p q k ++ [s.getD k default] := by
  rw [outP, if_neg (by omega), outP, if_neg (by omega), take_snoc s default k hk, List.drop_append_of_le_length (by rw [List.length_take]; omega)]
  simp
theorem outP_is {s : List Std} {N : Std} {p : Nat} (hk : p < s.length) : outP s N p (p + 1) (p + 1) = outP s N p (p + 1) p ++ [N] := by
  rw [outP, if_neg (by omega), outP, if_pos (by omega), List.drop_eq_nil_of_le (by rw [List.length_take]; omega)]
theorem outP_new {s : List Std} {N : Std} {p : Nat} (hk : p < s.length) : outP s N p p (p + 1) = outP s N p p p ++ [N] ++ [s.getD p default] := by
  rw [outP, if_neg (by omega), outP, if_pos (by omega), take_snoc s default p hk, List.drop_append_of_le_length (by rw [List.length_take]; omega), List.drop_eq_nil_of_le (by rw [List.length_take]; omega)]
  simp
theorem outP_all {s : List Std} {N : Std} {p q : Nat} (hp : p < s.length) : outP s N p q s.length = s.take p ++ N :: s.drop q := by
  rw [outP, if_neg (by omega), List.take_length]
theorem outP_len {s : List Std} {N : Std} {p q k : Nat} : (outP s N p q k).length ≤ 2 * s.length + 1 := by
  unfold outP
  split
  · rw [List.length_take]; omega
  · rw [List.length_append, List.length_cons, List.length_drop, List.length_take, List.length_take]; omega
theorem insertIdx_eq {α : Type} (N : α) : ∀ (s : List α) (p : Nat), p ≤ s.length → s.insertIdx p N = s.take p ++ N :: s.drop p
  | s, 0, _ => by simp
  | [], p + 1, h => by simp at h
  | a :: s, p + 1, h => by
    rw [List.insertIdx_succ_cons, insertIdx_eq N s p (by simpa using h)]; rfl
theorem row_snoc2 {α : Type} (c : α → List SV) (d : α) (l : List α) (x y : α) (sz : Nat) (hx : (c x).length = sz) (hy : (c y).length = sz) : l.length + 1 + 1 = (l ++ [x] ++ [y]).length ∧ ∀ i, i < l.length + 1 + 1 → joinGet (l.length + 1) (joinGet l.length (fun i => c (l.getD i d)) (cutRows sz (c x))) (cutRows sz (c y)) i = c ((l ++ [x] ++ [y]).getD i d) := by
  have h1 := row_snoc' c d l x sz hx
  have h2 := row_snoc' c d (l ++ [x]) y sz hy
  refine ⟨by simp, fun i hi => ?_⟩
  rw [← h2.2 i (by simpa using hi)]
  unfold joinGet
  rw [show (l ++ [x]).length = l.length + 1 by simp]
  by_cases h : i < l.length + 1
  · rw [if_pos h, if_pos h]; exact h1.2 i h
  · rw [if_neg h, if_neg h]
theorem outP_place {s : List Std} {x0 x1 : Int} {k : Nat} {N : Std} (has : Asc s Std.Shelf) (hN : N = ⟨x1, (boxesOf s x1).insertIdx k x0⟩) (hk : k ≤ (boxesOf s x1).length) :
    (isK s Std.Shelf x1 = true ∧ posK s Std.Shelf x1 < s.length ∧ outP s N (posK s Std.Shelf x1) (posK s Std.Shelf x1 + 1) s.length = placeL s x0 x1 k) ∨
    (isK s Std.Shelf x1 = false ∧ (posK s Std.Shelf x1 < s.length → outP s N (posK s Std.Shelf x1) (posK s Std.Shelf x1) s.length = placeL s x0 x1 k) ∧
      (s.length ≤ posK s Std.Shelf x1 → outP s N (posK s Std.Shelf x1) (posK s Std.Shelf x1) s.length ++ [N] = placeL s x0 x1 k)) := by
  subst hN
  have hpl := posK_le s Std.Shelf x1
  rcases hasK_cases has x1 with ⟨g1, g2, g3, _⟩ | ⟨hp, g1, g2, g3, _, g5⟩
  · have e1 : boxesOf s x1 = [] := by rw [boxesOf, g3]; rfl
    rw [e1] at hk ⊢
    obtain rfl : k = 0 := by simpa using hk
    refine .inr ⟨g2, fun h => ?_, fun h => ?_⟩
    · rw [outP_all h, placeL, if_neg (by rw [g2]; decide), insertIdx_eq _ _ _ hpl]; rfl
    · rw [outP, if_pos (by omega), placeL, if_neg (by rw [g2]; decide), insertIdx_eq _ _ _ hpl, List.take_length, show posK s Std.Shelf x1 = s.length by omega, List.take_length, List.drop_length]; rfl
  · exact .inl ⟨g2, hp, by rw [outP_all hp, placeL, if_pos g2, List.set_eq_take_append_cons_drop, if_pos hp]⟩
theorem ids_le {L : List Int} {k : Nat} {v : Int} (hk : k ≤ L.length) : SVle (.lst 1 (k - 0 + 1 + (L.length - k)) (joinGet (k - 0 + 1) (joinGet (k - 0) (fun i => (fun i => [SV.int .i64 (L.getD i 0)]) (Int.toNat (0 : Int) + i)) (cutRows 1 [SV.int .i64 v])) fun i => (fun i => [SV.int .i64 (L.getD i 0)]) (k + i))) (ints (L.insertIdx k v)) := by
  refine svle_lst (by rw [List.length_insertIdx, if_pos hk]; omega) fun i hi => ?_
  show SVles _ [SV.int .i64 ((L.insertIdx k v).getD i 0)]
  rw [getD_insertIdx 0 L k v hk i]
  unfold joinGet
  by_cases h1 : i < k
  · rw [if_pos (by omega), if_pos (by omega), if_pos h1]
    show SVles [SV.int .i64 (L.getD (0 + i) 0)] _
    rw [Nat.zero_add]; exact SVles.refl _
  · by_cases h2 : i = k
    · subst h2
      rw [if_pos (by omega), if_neg (by omega), if_neg h1, if_pos rfl, show i - (i - 0) = 0 by omega]
      exact SVles.refl _
    · rw [if_neg (by omega), if_neg h1, if_neg h2]
      show SVles [SV.int .i64 (L.getD (k + (i - (k - 0 + 1))) 0)] _
      rw [show k + (i - (k - 0 + 1)) = i - 1 by omega]
      exact SVles.refl _
theorem s29 (l : List Shf) (b : List Box) (s : List Std) (x0 x1 x2 : Int) (hs : s.length ≤ 100) (hx : ∀ y ∈ s, y.Boxes.length ≤ 1000) :
    Spec Try.prog 29 [shfs l, boxes b, stds s, .agg [.int .i64 x0, .int .i64 x1, .int .i64 x2]] (.tup [stds (placeR l b s x0 x1 x2).1, .int .i64 (placeR l b s x0 x1 x2).2]) := by
  have hs' : s.length ≤ 100000 := by omega
  have hx' : ∀ y ∈ s, y.Boxes.length ≤ 100000 := fun y hy => by have := hx y hy; omega
  refine spec_of_good mixed Try.func29 F29_ok (by kernel_rfl) ?_
  have hfind := s21 l b s x0 hs' hx'
  by_cases h : checkS l b s = 0
  · have hR := right_of h
    have f0 : findR l b s x0 = if isK b Box.ID x0 = false then (0, 0, 7) else if (findP x0 0 s).1 < 0 then (0, 0, 11)
      else ((s.getD (findP x0 0 s).1.toNat default).Shelf, widthI b ((s.getD (findP x0 0 s).1.toNat default).Boxes.take (findP x0 0 s).2.toNat), 0) := by rw [findR, if_neg (fun g => g h)]
    have e : placeR l b s x0 x1 x2 = placeQ l b s x0 x1 x2 := by rw [placeR, if_neg (fun g => g h)]
    have e0 : placeQ l b s x0 x1 x2 = if isK b Box.ID x0 = false ∨ isK l Shf.ID x1 = false then ([], 7) else if 0 ≤ (findP x0 0 s).1 then ([], 11) else if inB x2 0 (boxesOf s x1).length = false then ([], 2)
      else if (atK b Box.ID x0).Climate ≠ (atK l Shf.ID x1).Climate then ([], 10) else if roomI b s (atK l Shf.ID x1) < (atK b Box.ID x0).Width then ([], 12) else (placeL s x0 x1 x2.toNat, 0) := rfl
    rw [e]
    rcases isK_cases b Box.ID x0 with ⟨g1, _, g3, _⟩ | ⟨m, hm, g1, g2, g3, _⟩
    · rw [if_pos g1] at f0
      rw [f0] at hfind
      have s21a := hfind
      rw [if_pos (.inl g1)] at e0
      rw [e0]
      refine good_run 26 (obs := [True → (0 : Int) ≤ (0 : Int) ∧ (0 : Int) < (3 : Int), True → (0 : Int) ≤ (1 : Int) ∧ (1 : Int) < (3 : Int), True → (0 : Int) ≤ (2 : Int) ∧ (2 : Int) < (3 : Int)]) (by kernel_rfl) (by (first | omega | assumption | exact ⟨rfl, trivial⟩ | simp only [AllP, inK_iff, roomOK_iff, decide_eq_true_eq, Bool.and_eq_true, Bool.or_eq_true, Bool.not_eq_true', decide_eq_false_iff_not, and_true, true_and]; (first | omega | (and_intros <;> intros <;> (try and_intros) <;> first | omega | assumption | exact trivial)))) ?_
      refine good_call (c := True) (by kernel_rfl) (fun _ => SVles.refl _) (fun _ => s21a) (by kernel_rfl) ?_
      refine good_run 20 (obs := []) (by kernel_rfl) trivial ?_
      refine good_cond true (by kernel_rfl) (fun _ => ?_) (fun h => nomatch h)
      refine good_run 9 (obs := []) (by kernel_rfl) trivial ?_
      refine good_fin [(0 : Nat) = (0 : Nat), (7 : Int) = (7 : Int)] (by kernel_rfl) ⟨rfl, rfl, trivial⟩
    · rw [if_neg (by rw [g1]; decide)] at f0
      rcases isK_cases l Shf.ID x1 with ⟨k1, _, k3, _⟩ | ⟨n, hn, k1, k2, k3, k4⟩
      · have s46a : Spec Try.prog 46 [shfs l, .int .i64 x1] (.int .i64 (-1)) := k3 ▸ s46 l x1
        rw [if_pos (.inr k1)] at e0
        rw [e0]
        by_cases hp : (findP x0 0 s).1 < 0
        · rw [if_pos hp] at f0
          rw [f0] at hfind
          have s21a := hfind
          refine good_run 26 (obs := [True → (0 : Int) ≤ (0 : Int) ∧ (0 : Int) < (3 : Int), True → (0 : Int) ≤ (1 : Int) ∧ (1 : Int) < (3 : Int), True → (0 : Int) ≤ (2 : Int) ∧ (2 : Int) < (3 : Int)]) (by kernel_rfl) (by (first | omega | assumption | exact ⟨rfl, trivial⟩ | simp only [AllP, inK_iff, roomOK_iff, decide_eq_true_eq, Bool.and_eq_true, Bool.or_eq_true, Bool.not_eq_true', decide_eq_false_iff_not, and_true, true_and]; (first | omega | (and_intros <;> intros <;> (try and_intros) <;> first | omega | assumption | exact trivial)))) ?_
          refine good_call (c := True) (by kernel_rfl) (fun _ => SVles.refl _) (fun _ => s21a) (by kernel_rfl) ?_
          refine good_run 20 (obs := []) (by kernel_rfl) trivial ?_
          refine good_cond false (by kernel_rfl) (fun h => nomatch h) (fun _ => ?_)
          refine good_run 5 (obs := []) (by kernel_rfl) trivial ?_
          refine good_call (c := True) (by kernel_rfl) (fun _ => SVles.refl _) (fun _ => s46a) (by kernel_rfl) ?_
          refine good_run 10 (obs := []) (by kernel_rfl) trivial ?_
          refine good_cond true (by kernel_rfl) (fun _ => ?_) (fun h => nomatch h)
          refine good_run 8 (obs := []) (by kernel_rfl) trivial ?_
          refine good_fin [(0 : Nat) = (0 : Nat), (7 : Int) = (7 : Int)] (by kernel_rfl) ⟨rfl, rfl, trivial⟩
        · rw [if_neg hp] at f0
          rw [f0] at hfind
          have s21a := hfind
          refine good_run 26 (obs := [True → (0 : Int) ≤ (0 : Int) ∧ (0 : Int) < (3 : Int), True → (0 : Int) ≤ (1 : Int) ∧ (1 : Int) < (3 : Int), True → (0 : Int) ≤ (2 : Int) ∧ (2 : Int) < (3 : Int)]) (by kernel_rfl) (by (first | omega | assumption | exact ⟨rfl, trivial⟩ | simp only [AllP, inK_iff, roomOK_iff, decide_eq_true_eq, Bool.and_eq_true, Bool.or_eq_true, Bool.not_eq_true', decide_eq_false_iff_not, and_true, true_and]; (first | omega | (and_intros <;> intros <;> (try and_intros) <;> first | omega | assumption | exact trivial)))) ?_
          refine good_call (c := True) (by kernel_rfl) (fun _ => SVles.refl _) (fun _ => s21a) (by kernel_rfl) ?_
          refine good_run 20 (obs := []) (by kernel_rfl) trivial ?_
          refine good_cond false (by kernel_rfl) (fun h => nomatch h) (fun _ => ?_)
          refine good_run 5 (obs := []) (by kernel_rfl) trivial ?_
          refine good_call (c := True) (by kernel_rfl) (fun _ => SVles.refl _) (fun _ => s46a) (by kernel_rfl) ?_
          refine good_run 10 (obs := []) (by kernel_rfl) trivial ?_
          refine good_cond true (by kernel_rfl) (fun _ => ?_) (fun h => nomatch h)
          refine good_run 8 (obs := []) (by kernel_rfl) trivial ?_
          refine good_fin [(0 : Nat) = (0 : Nat), (7 : Int) = (7 : Int)] (by kernel_rfl) ⟨rfl, rfl, trivial⟩
      · have s46a : Spec Try.prog 46 [shfs l, .int .i64 x1] (.int .i64 (n : Int)) := k3 ▸ s46 l x1
        rw [if_neg (by rw [g1, k1]; decide)] at e0
        by_cases hp : (findP x0 0 s).1 < 0
        · rw [if_pos hp] at f0
          rw [f0] at hfind
          have s21a := hfind
          rw [if_neg (by omega)] at e0
          refine good_run 26 (obs := [True → (0 : Int) ≤ (0 : Int) ∧ (0 : Int) < (3 : Int), True → (0 : Int) ≤ (1 : Int) ∧ (1 : Int) < (3 : Int), True → (0 : Int) ≤ (2 : Int) ∧ (2 : Int) < (3 : Int)]) (by kernel_rfl) (by (first | omega | assumption | exact ⟨rfl, trivial⟩ | simp only [AllP, inK_iff, roomOK_iff, decide_eq_true_eq, Bool.and_eq_true, Bool.or_eq_true, Bool.not_eq_true', decide_eq_false_iff_not, and_true, true_and]; (first | omega | (and_intros <;> intros <;> (try and_intros) <;> first | omega | assumption | exact trivial)))) ?_
          refine good_call (c := True) (by kernel_rfl) (fun _ => SVles.refl _) (fun _ => s21a) (by kernel_rfl) ?_
          refine good_run 20 (obs := []) (by kernel_rfl) trivial ?_
          refine good_cond false (by kernel_rfl) (fun h => nomatch h) (fun _ => ?_)
          refine good_run 5 (obs := []) (by kernel_rfl) trivial ?_
          refine good_call (c := True) (by kernel_rfl) (fun _ => SVles.refl _) (fun _ => s46a) (by kernel_rfl) ?_
          refine good_run 10 (obs := []) (by kernel_rfl) trivial ?_
          refine good_cond (decide ((↑n : Int) < (0 : Int))) (by kernel_rfl) (fun hc1 => ?_) (fun hc1 => ?_)
          · simp only [decide_eq_true_eq] at hc1
            omega
          have s51c : Spec Try.prog 51 [boxes b, .int .i64 x0] (.int .i64 (m : Int)) := g3 ▸ s51a b x0
          have hbl := boxesOf_len hx' x1
          have hwb0 := widthI_bound hR.wb (boxesOf s x1)
          have hwx := wOK_at hR.wb x0
          have hok := okS_len (hR.okl _ (getD_mem l default n hn))
          have hwb1 := hR.wb
          have hall : ∀ q ∈ boxesOf s x1, isK b Box.ID q = true := by
            unfold boxesOf
            rcases isK_cases s Std.Shelf x1 with ⟨_, e, _⟩ | ⟨k, hk, _, e, _⟩
            · rw [e]; intro q hq; cases hq
            · rw [e]; exact fun q hq => ((hR.on _ (getD_mem s default k hk)).2.2.2 q hq).1
          have hroom : roomI b s (l.getD n default) = (l.getD n default).Length - widthI b (boxesOf s x1) := by rw [roomI, k4]
          rw [g2] at hwx
          rw [g2, k2, hroom] at e0
          refine good_run 8 (obs := []) (by kernel_rfl) trivial ?_
          refine good_cond false (by kernel_rfl) (fun h => nomatch h) (fun _ => ?_)
          refine good_run 5 (obs := []) (by kernel_rfl) trivial ?_
          refine good_call (c := True) (by kernel_rfl) (fun _ => SVles.refl _) (fun _ => s48 (s) (x1)) (by kernel_rfl) ?_
          refine good_run 16 (obs := []) (by kernel_rfl) trivial ?_
          refine good_cond (decide (x2 < (0 : Int)) || decide ((↑(List.length (boxesOf s x1)) : Int) < x2)) (by kernel_rfl) (fun hc2 => ?_) (fun hc2 => ?_)
          · rw [if_pos (by
              simp only [Bool.or_eq_true, decide_eq_true_eq] at hc2
              simp only [inB, Bool.and_eq_false_iff, decide_eq_false_iff_not]
              omega)] at e0
            rw [e0]
            refine good_run 8 (obs := []) (by kernel_rfl) trivial ?_
            refine good_fin [(0 : Nat) = (0 : Nat), (2 : Int) = (2 : Int)] (by kernel_rfl) ⟨rfl, rfl, trivial⟩
          · have hin : 0 ≤ x2 ∧ x2 ≤ (boxesOf s x1).length := by
              simp only [Bool.or_eq_false_iff, decide_eq_false_iff_not] at hc2
              omega
            rw [if_neg (by
              simp only [inB, Bool.and_eq_false_iff, decide_eq_false_iff_not]
              omega)] at e0
            refine good_run 6 (obs := []) (by kernel_rfl) trivial ?_
            refine good_call (c := True) (by kernel_rfl) (fun _ => SVles.refl _) (fun _ => s51c) (by kernel_rfl) ?_
            refine good_run 19 (obs := [(5 : Nat) = (5 : Nat) ∧ (0 : Int) ≤ (↑m : Int) ∧ (↑m : Int) < (↑(List.length b) : Int), (0 : Nat) + (5 : Nat) ≤ (5 : Nat), (5 : Nat) = (5 : Nat) ∧ (0 : Nat) + (5 : Nat) ≤ (5 : Nat), True → (4 : Nat) = (4 : Nat) ∧ (0 : Int) ≤ (↑n : Int) ∧ (↑n : Int) < (↑(List.length l) : Int)]) (by kernel_rfl) (by (first | omega | assumption | exact ⟨rfl, trivial⟩ | simp only [AllP, inK_iff, roomOK_iff, decide_eq_true_eq, Bool.and_eq_true, Bool.or_eq_true, Bool.not_eq_true', decide_eq_false_iff_not, and_true, true_and]; (first | omega | (and_intros <;> intros <;> (try and_intros) <;> first | omega | assumption | exact trivial)))) ?_
            refine good_cond (!decide ((List.getD b m default).Climate = (List.getD l n default).Climate)) (by kernel_rfl) (fun hc3 => ?_) (fun hc3 => ?_)
            · simp only [Bool.not_eq_true', decide_eq_false_iff_not] at hc3
              rw [if_pos hc3] at e0
              rw [e0]
              refine good_run 8 (obs := []) (by kernel_rfl) trivial ?_
              refine good_fin [(0 : Nat) = (0 : Nat), (10 : Int) = (10 : Int)] (by kernel_rfl) ⟨rfl, rfl, trivial⟩
            · simp only [Bool.not_eq_false', decide_eq_true_eq] at hc3
              rw [if_neg (fun h => h hc3)] at e0
              refine good_run 8 (obs := []) (by kernel_rfl) trivial ?_
              refine good_call (c := True) (by kernel_rfl) (fun _ => SVles.refl _) (fun _ => s47 (b) (boxesOf s x1) (by (first | omega | assumption | exact ⟨rfl, trivial⟩ | simp only [AllP, inK_iff, roomOK_iff, decide_eq_true_eq, Bool.and_eq_true, Bool.or_eq_true, Bool.not_eq_true', decide_eq_false_iff_not, and_true, true_and]; (first | omega | (and_intros <;> intros <;> (try and_intros) <;> first | omega | assumption | exact trivial)))) (by (first | omega | assumption | exact ⟨rfl, trivial⟩ | simp only [AllP, inK_iff, roomOK_iff, decide_eq_true_eq, Bool.and_eq_true, Bool.or_eq_true, Bool.not_eq_true', decide_eq_false_iff_not, and_true, true_and]; (first | omega | (and_intros <;> intros <;> (try and_intros) <;> first | omega | assumption | exact trivial)))) (by (first | omega | assumption | exact ⟨rfl, trivial⟩ | simp only [AllP, inK_iff, roomOK_iff, decide_eq_true_eq, Bool.and_eq_true, Bool.or_eq_true, Bool.not_eq_true', decide_eq_false_iff_not, and_true, true_and]; (first | omega | (and_intros <;> intros <;> (try and_intros) <;> first | omega | assumption | exact trivial))))) (by kernel_rfl) ?_
              refine good_run 9 (obs := [True → InK IntKind.i64 ((List.getD b m default).Width + widthI b (boxesOf s x1)), True → (4 : Nat) = (4 : Nat) ∧ (0 : Int) ≤ (↑n : Int) ∧ (↑n : Int) < (↑(List.length l) : Int)]) (by kernel_rfl) (by (first | omega | assumption | exact ⟨rfl, trivial⟩ | simp only [AllP, inK_iff, roomOK_iff, decide_eq_true_eq, Bool.and_eq_true, Bool.or_eq_true, Bool.not_eq_true', decide_eq_false_iff_not, and_true, true_and]; (first | omega | (and_intros <;> intros <;> (try and_intros) <;> first | omega | assumption | exact trivial)))) ?_
              refine good_cond (decide ((List.getD l n default).Length < (List.getD b m default).Width + widthI b (boxesOf s x1))) (by kernel_rfl) (fun hc4 => ?_) (fun hc4 => ?_)
              · simp only [decide_eq_true_eq] at hc4
                rw [if_pos (by omega)] at e0
                rw [e0]
                refine good_run 8 (obs := []) (by kernel_rfl) trivial ?_
                refine good_fin [(0 : Nat) = (0 : Nat), (12 : Int) = (12 : Int)] (by kernel_rfl) ⟨rfl, rfl, trivial⟩
              · simp only [decide_eq_false_iff_not] at hc4
                rw [if_neg (by omega)] at e0
                rw [e0]
                refine good_run 49 (obs := [(1 : Nat) = (1 : Nat) ∧ (0 : Int) ≤ (0 : Int) ∧ (0 : Int) ≤ x2 ∧ x2 ≤ (↑(List.length (boxesOf s x1)) : Int), (1 : Nat) = (1 : Nat) ∧ roomOK (Int.toNat x2 - (0 : Nat)) (8 : Nat), (3 : Nat) = (3 : Nat) ∧ (1 : Nat) = (1 : Nat) ∧ (1 : Nat) = (1 : Nat) ∧ roomOK (Int.toNat x2 - (0 : Nat) + (1 : Nat)) (8 : Nat), (1 : Nat) = (1 : Nat) ∧ (0 : Int) ≤ x2 ∧ x2 ≤ (↑(List.length (boxesOf s x1)) : Int) ∧ (↑(List.length (boxesOf s x1)) : Int) ≤ (↑(List.length (boxesOf s x1)) : Int), (3 : Nat) = (3 : Nat) ∧ (1 : Nat) = (1 : Nat) ∧ (1 : Nat) = (1 : Nat) ∧ roomOK (Int.toNat x2 - (0 : Nat) + (1 : Nat) + (List.length (boxesOf s x1) - Int.toNat x2)) (8 : Nat)]) (by kernel_rfl) (by (first | omega | assumption | exact ⟨rfl, trivial⟩ | simp only [AllP, inK_iff, roomOK_iff, decide_eq_true_eq, Bool.and_eq_true, Bool.or_eq_true, Bool.not_eq_true', decide_eq_false_iff_not, and_true, true_and]; (first | omega | (and_intros <;> intros <;> (try and_intros) <;> first | omega | assumption | exact trivial)))) ?_
                refine good_part 19 ((2 : Nat)) ((1 : Nat)) (Int.toNat x2 - (0 : Nat) + (1 : Nat) + (List.length (boxesOf s x1) - Int.toNat x2)) (joinGet (Int.toNat x2 - (0 : Nat) + (1 : Nat)) (joinGet (Int.toNat x2 - (0 : Nat)) (fun i => (fun i => [SV.int IntKind.i64 (List.getD (boxesOf s x1) i (0 : Int))]) (Int.toNat (0 : Int) + i)) (cutRows (1 : Nat) [SV.int IntKind.i64 x0])) fun i => (fun i => [SV.int IntKind.i64 (List.getD (boxesOf s x1) i (0 : Int))]) (Int.toNat x2 + i)) (by kernel_rfl) ?_
                refine good_sv 19 (a := SV.lst (1 : Nat) (Int.toNat x2 - (0 : Nat) + (1 : Nat) + (List.length (boxesOf s x1) - Int.toNat x2)) (joinGet (Int.toNat x2 - (0 : Nat) + (1 : Nat)) (joinGet (Int.toNat x2 - (0 : Nat)) (fun i => (fun i => [SV.int IntKind.i64 (List.getD (boxesOf s x1) i (0 : Int))]) (Int.toNat (0 : Int) + i)) (cutRows (1 : Nat) [SV.int IntKind.i64 x0])) fun i => (fun i => [SV.int IntKind.i64 (List.getD (boxesOf s x1) i (0 : Int))]) (Int.toNat x2 + i))) (ints ((boxesOf s x1).insertIdx x2.toNat x0)) (by kernel_rfl) (ids_le (by omega)) ?_
                refine good_own (c := True) (by kernel_rfl) (by kernel_rfl) (SVles.refl _) (s33 (s) (by (first | omega | assumption | exact ⟨rfl, trivial⟩ | simp only [AllP, inK_iff, roomOK_iff, decide_eq_true_eq, Bool.and_eq_true, Bool.or_eq_true, Bool.not_eq_true', decide_eq_false_iff_not, and_true, true_and]; (first | omega | (and_intros <;> intros <;> (try and_intros) <;> first | omega | assumption | exact trivial)))) (by (first | omega | assumption | exact ⟨rfl, trivial⟩ | simp only [AllP, inK_iff, roomOK_iff, decide_eq_true_eq, Bool.and_eq_true, Bool.or_eq_true, Bool.not_eq_true', decide_eq_false_iff_not, and_true, true_and]; (first | omega | (and_intros <;> intros <;> (try and_intros) <;> first | omega | assumption | exact trivial))))) ?_
                refine good_run 5 (obs := []) (by kernel_rfl) trivial ?_
                have hpl := posK_le s Std.Shelf x1
                have has := hR.as'
                have hbel := fun j => posK_below Std.Shelf x1 s j
                have habo := fun j => posK_above has x1 j
                have hone : ∀ j, j < s.length → isK s Std.Shelf x1 = true → (s.getD j default).Shelf = x1 → j = posK s Std.Shelf x1 := by
                  intro j hj hi he
                  rcases hasK_cases has x1 with ⟨_, g2, _⟩ | ⟨hp, _, _, _, _, g5⟩
                  · rw [g2] at hi; cases hi
                  · exact asc_inj has hj hp (he.trans g5.symm)
                have hnone : isK s Std.Shelf x1 = false → ∀ j, j < s.length → (s.getD j default).Shelf ≠ x1 := by
                  intro hi j hj
                  rcases isK_cases s Std.Shelf x1 with ⟨_, _, _, g⟩ | ⟨_, _, g, _⟩
                  · exact g _ (getD_mem s default j hj)
                  · rw [hi] at g; cases g
                have hyes : isK s Std.Shelf x1 = true → posK s Std.Shelf x1 < s.length ∧ (s.getD (posK s Std.Shelf x1) default).Shelf = x1 := by
                  intro hi
                  rcases hasK_cases has x1 with ⟨_, g2, _⟩ | ⟨hp, _, _, _, _, g5⟩
                  · rw [g2] at hi; cases hi
                  · exact ⟨hp, g5⟩
                have hpla := outP_place (N := ⟨x1, (boxesOf s x1).insertIdx x2.toNat x0⟩) (x0 := x0) has rfl (show x2.toNat ≤ (boxesOf s x1).length by omega)
                generalize hN : (⟨x1, (boxesOf s x1).insertIdx x2.toNat x0⟩ : Std) = N at hpla
                generalize placeL s x0 x1 x2.toNat = res at hpla ⊢
                generalize hP : posK s Std.Shelf x1 = P at *
                have hq : ∃ q : Nat, q = if isK s Std.Shelf x1 = true then P + 1 else P := ⟨_, rfl⟩
                obtain ⟨q, hq⟩ := hq
                skip
                refine good_loopJ (fun k : Nat => ⟨[(107, .sv (.int .i64 (k))), (20, .own 5), (21, .sv (.bool (decide (P < k)))), (106, LV.sv (SV.int IntKind.i64 (↑(List.length s) : Int))), (105, LV.own (4 : Nat)), (19, LV.sv (SV.lst (1 : Nat) (List.length (List.insertIdx (boxesOf s x1) (Int.toNat x2) x0)) fun i => [SV.int IntKind.i64 (List.getD (List.insertIdx (boxesOf s x1) (Int.toNat x2) x0) i (0 : Int))])), (11, LV.sv (SV.int IntKind.i64 x1))], [Blk.cells (36 : Nat) true [SV.int IntKind.i64 x0, SV.int IntKind.i64 x1, SV.int IntKind.i64 x2], Blk.cells (51 : Nat) true [SV.int IntKind.i64 (List.getD b m default).ID, SV.int IntKind.i64 (List.getD b m default).Width, SV.int IntKind.i64 (List.getD b m default).Room, SV.int IntKind.i64 (List.getD b m default).Climate, SV.lst (2 : Nat) (List.length (List.getD b m default).Contents) fun i => Content.cells (List.getD (List.getD b m default).Contents i default)], Blk.row (3 : Nat) (1 : Nat) (Int.toNat x2 - (0 : Nat) + (1 : Nat) + (List.length (boxesOf s x1) - Int.toNat x2)) false (joinGet (Int.toNat x2 - (0 : Nat) + (1 : Nat)) (joinGet (Int.toNat x2 - (0 : Nat)) (fun i => (fun i => [SV.int IntKind.i64 (List.getD (boxesOf s x1) i (0 : Int))]) (Int.toNat (0 : Int) + i)) (cutRows (1 : Nat) [SV.int IntKind.i64 x0])) fun i => (fun i => [SV.int IntKind.i64 (List.getD (boxesOf s x1) i (0 : Int))]) (Int.toNat x2 + i)), Blk.row (3 : Nat) (1 : Nat) (1 : Nat) true (cutRows (1 : Nat) [SV.int IntKind.i64 x0]), Blk.row (47 : Nat) (2 : Nat) (List.length s) true fun i => Std.cells (List.getD s i default), .row 47 2 (outP s N P q k).length true fun i => ((outP s N P q k).getD i default).cells]⟩) (fun k => k ≤ s.length) (fun k => s.length - k) (0) [x0 = x0, x1 = x1, x2 = x2, (List.getD b m default).ID = (List.getD b m default).ID, (List.getD b m default).Width = (List.getD b m default).Width, (List.getD b m default).Room = (List.getD b m default).Room, (List.getD b m default).Climate = (List.getD b m default).Climate, List.length (List.getD b m default).Contents = List.length (List.getD b m default).Contents ∧ ∀ (i : Nat), i < List.length (List.getD b m default).Contents → (fun i => Content.cells (List.getD (List.getD b m default).Contents i default)) i = (fun i => Content.cells (List.getD (List.getD b m default).Contents i default)) i, Int.toNat x2 - (0 : Nat) + (1 : Nat) + (List.length (boxesOf s x1) - Int.toNat x2) = Int.toNat x2 - (0 : Nat) + (1 : Nat) + (List.length (boxesOf s x1) - Int.toNat x2) ∧ ∀ (i : Nat), i < Int.toNat x2 - (0 : Nat) + (1 : Nat) + (List.length (boxesOf s x1) - Int.toNat x2) → joinGet (Int.toNat x2 - (0 : Nat) + (1 : Nat)) (joinGet (Int.toNat x2 - (0 : Nat)) (fun i => (fun i => [SV.int IntKind.i64 (List.getD (boxesOf s x1) i (0 : Int))]) (Int.toNat (0 : Int) + i)) (cutRows (1 : Nat) [SV.int IntKind.i64 x0])) (fun i => (fun i => [SV.int IntKind.i64 (List.getD (boxesOf s x1) i (0 : Int))]) (Int.toNat x2 + i)) i = joinGet (Int.toNat x2 - (0 : Nat) + (1 : Nat)) (joinGet (Int.toNat x2 - (0 : Nat)) (fun i => (fun i => [SV.int IntKind.i64 (List.getD (boxesOf s x1) i (0 : Int))]) (Int.toNat (0 : Int) + i)) (cutRows (1 : Nat) [SV.int IntKind.i64 x0])) (fun i => (fun i => [SV.int IntKind.i64 (List.getD (boxesOf s x1) i (0 : Int))]) (Int.toNat x2 + i)) i, (1 : Nat) = (1 : Nat) ∧ ∀ (i : Nat), i < (1 : Nat) → cutRows (1 : Nat) [SV.int IntKind.i64 x0] i = cutRows (1 : Nat) [SV.int IntKind.i64 x0] i, List.length s = List.length s ∧ ∀ (i : Nat), i < List.length s → (fun i => Std.cells (List.getD s i default)) i = (fun i => Std.cells (List.getD s i default)) i, (0 : Nat) = (0 : Nat), (0 : Int) = (0 : Int), false = decide (P < (0 : Nat)), (↑(List.length s) : Int) = (↑(List.length s) : Int), List.length (List.insertIdx (boxesOf s x1) (Int.toNat x2) x0) = List.length (List.insertIdx (boxesOf s x1) (Int.toNat x2) x0) ∧ ∀ (i : Nat), i < List.length (List.insertIdx (boxesOf s x1) (Int.toNat x2) x0) → (fun i => [SV.int IntKind.i64 (List.getD (List.insertIdx (boxesOf s x1) (Int.toNat x2) x0) i (0 : Int))]) i = (fun i => [SV.int IntKind.i64 (List.getD (List.insertIdx (boxesOf s x1) (Int.toNat x2) x0) i (0 : Int))]) i, x1 = x1] (by kernel_rfl) (by kernel_rfl) ⟨rfl, rfl, rfl, rfl, rfl, rfl, rfl, ⟨rfl, fun _ _ => rfl⟩, ⟨rfl, fun _ _ => rfl⟩, ⟨rfl, fun _ _ => rfl⟩, ⟨rfl, fun _ _ => rfl⟩, rfl, rfl, (by assumption), rfl, ⟨rfl, fun _ _ => rfl⟩, rfl, trivial⟩ (by omega) ?_
                intro k hk
                have hol := outP_len (s := s) (N := N) (p := P) (q := q) (k := k)
                refine good_run 6 (obs := []) (by kernel_rfl) trivial ?_
                refine good_cond (decide ((↑k : Int) < (↑(List.length s) : Int))) (by kernel_rfl) (fun hc5 => ?_) (fun hc5 => ?_)
                · have hkl : k < s.length := by simp only [decide_eq_true_eq] at hc5; omega
                  clear hc5
                  have gt := outP_gt (s := s) (N := N) (p := P) (q := q) (k := k)
                  have lt := outP_lt (s := s) (N := N) (p := P) (q := q) (k := k)
                  refine good_run 24 (obs := [(2 : Nat) = (2 : Nat) ∧ (0 : Int) ≤ (↑k : Int) ∧ (↑k : Int) < (↑(List.length s) : Int), (0 : Nat) + (2 : Nat) ≤ (2 : Nat), (2 : Nat) = (2 : Nat) ∧ (0 : Nat) + (2 : Nat) ≤ (2 : Nat)]) (by kernel_rfl) (by (first | omega | assumption | exact ⟨rfl, trivial⟩ | simp only [AllP, inK_iff, roomOK_iff, decide_eq_true_eq, Bool.and_eq_true, Bool.or_eq_true, Bool.not_eq_true', decide_eq_false_iff_not, and_true, true_and]; (first | omega | (and_intros <;> intros <;> (try and_intros) <;> first | omega | assumption | exact trivial)))) ?_
                  refine good_cond (!decide (P < k) && decide (x1 ≤ (List.getD s k default).Shelf)) (by kernel_rfl) (fun hc5 => ?_) (fun hc5 => ?_)
                  · simp only [Bool.and_eq_true, Bool.not_eq_true', decide_eq_false_iff_not, decide_eq_true_eq] at hc5
                    have hkP : k = P := by
                      have := hbel k
                      omega
                    clear hbel habo
                    subst hkP
                    refine good_run 19 (obs := [(47 : Nat) = (47 : Nat) ∧ (2 : Nat) = (2 : Nat) ∧ (2 : Nat) = (2 : Nat) ∧ roomOK (List.length (outP s N k q k) + (1 : Nat)) (32 : Nat)]) (by kernel_rfl) (by (first | omega | assumption | exact ⟨rfl, trivial⟩ | simp only [AllP, inK_iff, roomOK_iff, decide_eq_true_eq, Bool.and_eq_true, Bool.or_eq_true, Bool.not_eq_true', decide_eq_false_iff_not, and_true, true_and]; (first | omega | (and_intros <;> intros <;> (try and_intros) <;> first | omega | assumption | exact trivial)))) ?_
                    refine good_cond (!decide ((List.getD s k default).Shelf = x1)) (by kernel_rfl) (fun hc6 => ?_) (fun hc6 => ?_)
                    · have hi : isK s Std.Shelf x1 = false := by
                        cases hi : isK s Std.Shelf x1 with
                        | false => rfl
                        | true => exact absurd (hyes hi).2 (by simpa using hc6)
                      rw [hi, if_neg (by decide)] at hq
                      subst hq
                      have e := outP_new (s := s) (N := N) hkl
                      refine good_run 14 (obs := [(0 : Nat) + (2 : Nat) ≤ (2 : Nat), (47 : Nat) = (47 : Nat) ∧ (2 : Nat) = (2 : Nat) ∧ (2 : Nat) = (2 : Nat) ∧ roomOK (List.length (outP s N q q q) + (1 : Nat) + (1 : Nat)) (32 : Nat), InK IntKind.i64 ((↑q : Int) + (1 : Int))]) (by kernel_rfl) (by (first | omega | assumption | exact ⟨rfl, trivial⟩ | simp only [AllP, inK_iff, roomOK_iff, decide_eq_true_eq, Bool.and_eq_true, Bool.or_eq_true, Bool.not_eq_true', decide_eq_false_iff_not, and_true, true_and]; (first | omega | (and_intros <;> intros <;> (try and_intros) <;> first | omega | assumption | exact trivial)))) ?_
                      refine good_backJ (q + 1) [x0 = x0, x1 = x1, x2 = x2, (List.getD b m default).ID = (List.getD b m default).ID, (List.getD b m default).Width = (List.getD b m default).Width, (List.getD b m default).Room = (List.getD b m default).Room, (List.getD b m default).Climate = (List.getD b m default).Climate, List.length (List.getD b m default).Contents = List.length (List.getD b m default).Contents ∧ ∀ (i : Nat), i < List.length (List.getD b m default).Contents → (fun i => Content.cells (List.getD (List.getD b m default).Contents i default)) i = (fun i => Content.cells (List.getD (List.getD b m default).Contents i default)) i, Int.toNat x2 - (0 : Nat) + (1 : Nat) + (List.length (boxesOf s x1) - Int.toNat x2) = Int.toNat x2 - (0 : Nat) + (1 : Nat) + (List.length (boxesOf s x1) - Int.toNat x2) ∧ ∀ (i : Nat), i < Int.toNat x2 - (0 : Nat) + (1 : Nat) + (List.length (boxesOf s x1) - Int.toNat x2) → joinGet (Int.toNat x2 - (0 : Nat) + (1 : Nat)) (joinGet (Int.toNat x2 - (0 : Nat)) (fun i => (fun i => [SV.int IntKind.i64 (List.getD (boxesOf s x1) i (0 : Int))]) (Int.toNat (0 : Int) + i)) (cutRows (1 : Nat) [SV.int IntKind.i64 x0])) (fun i => (fun i => [SV.int IntKind.i64 (List.getD (boxesOf s x1) i (0 : Int))]) (Int.toNat x2 + i)) i = joinGet (Int.toNat x2 - (0 : Nat) + (1 : Nat)) (joinGet (Int.toNat x2 - (0 : Nat)) (fun i => (fun i => [SV.int IntKind.i64 (List.getD (boxesOf s x1) i (0 : Int))]) (Int.toNat (0 : Int) + i)) (cutRows (1 : Nat) [SV.int IntKind.i64 x0])) (fun i => (fun i => [SV.int IntKind.i64 (List.getD (boxesOf s x1) i (0 : Int))]) (Int.toNat x2 + i)) i, (1 : Nat) = (1 : Nat) ∧ ∀ (i : Nat), i < (1 : Nat) → cutRows (1 : Nat) [SV.int IntKind.i64 x0] i = cutRows (1 : Nat) [SV.int IntKind.i64 x0] i, List.length s = List.length s ∧ ∀ (i : Nat), i < List.length s → (fun i => Std.cells (List.getD s i default)) i = (fun i => Std.cells (List.getD s i default)) i, List.length (outP s N q q q) + (1 : Nat) + (1 : Nat) = List.length (outP s N q q (q + (1 : Nat))) ∧ ∀ (i : Nat), i < List.length (outP s N q q q) + (1 : Nat) + (1 : Nat) → joinGet (List.length (outP s N q q q) + (1 : Nat)) (joinGet (List.length (outP s N q q q)) (fun i => Std.cells (List.getD (outP s N q q q) i default)) (cutRows (2 : Nat) [SV.int IntKind.i64 x1, SV.lst (1 : Nat) (List.length (List.insertIdx (boxesOf s x1) (Int.toNat x2) x0)) fun i => [SV.int IntKind.i64 (List.getD (List.insertIdx (boxesOf s x1) (Int.toNat x2) x0) i (0 : Int))]])) (cutRows (2 : Nat) [SV.int IntKind.i64 (List.getD s q default).Shelf, SV.lst (1 : Nat) (List.length (List.getD s q default).Boxes) fun i => [SV.int IntKind.i64 (List.getD (List.getD s q default).Boxes i (0 : Int))]]) i = (fun i => Std.cells (List.getD (outP s N q q (q + (1 : Nat))) i default)) i, (↑q : Int) + (1 : Int) = (↑(q + (1 : Nat)) : Int), true = decide (q < q + (1 : Nat)), (↑(List.length s) : Int) = (↑(List.length s) : Int), List.length (List.insertIdx (boxesOf s x1) (Int.toNat x2) x0) = List.length (List.insertIdx (boxesOf s x1) (Int.toNat x2) x0) ∧ ∀ (i : Nat), i < List.length (List.insertIdx (boxesOf s x1) (Int.toNat x2) x0) → (fun i => [SV.int IntKind.i64 (List.getD (List.insertIdx (boxesOf s x1) (Int.toNat x2) x0) i (0 : Int))]) i = (fun i => [SV.int IntKind.i64 (List.getD (List.insertIdx (boxesOf s x1) (Int.toNat x2) x0) i (0 : Int))]) i, x1 = x1] (by kernel_rfl) (by kernel_rfl) ⟨rfl, rfl, rfl, rfl, rfl, rfl, rfl, ⟨rfl, fun _ _ => rfl⟩, ⟨rfl, fun _ _ => rfl⟩, ⟨rfl, fun _ _ => rfl⟩, ⟨rfl, fun _ _ => rfl⟩, ?_, (by omega), ?_, rfl, ⟨rfl, fun _ _ => rfl⟩, rfl, trivial⟩ (by omega) (by show _ < _; omega)
                      all_goals first
                        | exact (decide_eq_true (by omega)).symm
                        | (rw [e, ← hN]; exact row_snoc2 Std.cells default _ _ _ 2 rfl rfl)
                    · have hi : isK s Std.Shelf x1 = true := by
                        cases hi : isK s Std.Shelf x1 with
                        | false => exact absurd (by simpa using hc6) (hnone hi k hkl)
                        | true => rfl
                      rw [hi, if_pos rfl] at hq
                      subst hq
                      have e := outP_is (s := s) (N := N) hkl
                      refine good_run 7 (obs := [InK IntKind.i64 ((↑k : Int) + (1 : Int))]) (by kernel_rfl) (by (first | omega | assumption | exact ⟨rfl, trivial⟩ | simp only [AllP, inK_iff, roomOK_iff, decide_eq_true_eq, Bool.and_eq_true, Bool.or_eq_true, Bool.not_eq_true', decide_eq_false_iff_not, and_true, true_and]; (first | omega | (and_intros <;> intros <;> (try and_intros) <;> first | omega | assumption | exact trivial)))) ?_
                      refine good_backJ (k + 1) [x0 = x0, x1 = x1, x2 = x2, (List.getD b m default).ID = (List.getD b m default).ID, (List.getD b m default).Width = (List.getD b m default).Width, (List.getD b m default).Room = (List.getD b m default).Room, (List.getD b m default).Climate = (List.getD b m default).Climate, List.length (List.getD b m default).Contents = List.length (List.getD b m default).Contents ∧ ∀ (i : Nat), i < List.length (List.getD b m default).Contents → (fun i => Content.cells (List.getD (List.getD b m default).Contents i default)) i = (fun i => Content.cells (List.getD (List.getD b m default).Contents i default)) i, Int.toNat x2 - (0 : Nat) + (1 : Nat) + (List.length (boxesOf s x1) - Int.toNat x2) = Int.toNat x2 - (0 : Nat) + (1 : Nat) + (List.length (boxesOf s x1) - Int.toNat x2) ∧ ∀ (i : Nat), i < Int.toNat x2 - (0 : Nat) + (1 : Nat) + (List.length (boxesOf s x1) - Int.toNat x2) → joinGet (Int.toNat x2 - (0 : Nat) + (1 : Nat)) (joinGet (Int.toNat x2 - (0 : Nat)) (fun i => (fun i => [SV.int IntKind.i64 (List.getD (boxesOf s x1) i (0 : Int))]) (Int.toNat (0 : Int) + i)) (cutRows (1 : Nat) [SV.int IntKind.i64 x0])) (fun i => (fun i => [SV.int IntKind.i64 (List.getD (boxesOf s x1) i (0 : Int))]) (Int.toNat x2 + i)) i = joinGet (Int.toNat x2 - (0 : Nat) + (1 : Nat)) (joinGet (Int.toNat x2 - (0 : Nat)) (fun i => (fun i => [SV.int IntKind.i64 (List.getD (boxesOf s x1) i (0 : Int))]) (Int.toNat (0 : Int) + i)) (cutRows (1 : Nat) [SV.int IntKind.i64 x0])) (fun i => (fun i => [SV.int IntKind.i64 (List.getD (boxesOf s x1) i (0 : Int))]) (Int.toNat x2 + i)) i, (1 : Nat) = (1 : Nat) ∧ ∀ (i : Nat), i < (1 : Nat) → cutRows (1 : Nat) [SV.int IntKind.i64 x0] i = cutRows (1 : Nat) [SV.int IntKind.i64 x0] i, List.length s = List.length s ∧ ∀ (i : Nat), i < List.length s → (fun i => Std.cells (List.getD s i default)) i = (fun i => Std.cells (List.getD s i default)) i, List.length (outP s N k (k + (1 : Nat)) k) + (1 : Nat) = List.length (outP s N k (k + (1 : Nat)) (k + (1 : Nat))) ∧ ∀ (i : Nat), i < List.length (outP s N k (k + (1 : Nat)) k) + (1 : Nat) → joinGet (List.length (outP s N k (k + (1 : Nat)) k)) (fun i => Std.cells (List.getD (outP s N k (k + (1 : Nat)) k) i default)) (cutRows (2 : Nat) [SV.int IntKind.i64 x1, SV.lst (1 : Nat) (List.length (List.insertIdx (boxesOf s x1) (Int.toNat x2) x0)) fun i => [SV.int IntKind.i64 (List.getD (List.insertIdx (boxesOf s x1) (Int.toNat x2) x0) i (0 : Int))]]) i = (fun i => Std.cells (List.getD (outP s N k (k + (1 : Nat)) (k + (1 : Nat))) i default)) i, (↑k : Int) + (1 : Int) = (↑(k + (1 : Nat)) : Int), true = decide (k < k + (1 : Nat)), (↑(List.length s) : Int) = (↑(List.length s) : Int), List.length (List.insertIdx (boxesOf s x1) (Int.toNat x2) x0) = List.length (List.insertIdx (boxesOf s x1) (Int.toNat x2) x0) ∧ ∀ (i : Nat), i < List.length (List.insertIdx (boxesOf s x1) (Int.toNat x2) x0) → (fun i => [SV.int IntKind.i64 (List.getD (List.insertIdx (boxesOf s x1) (Int.toNat x2) x0) i (0 : Int))]) i = (fun i => [SV.int IntKind.i64 (List.getD (List.insertIdx (boxesOf s x1) (Int.toNat x2) x0) i (0 : Int))]) i, x1 = x1] (by kernel_rfl) (by kernel_rfl) ⟨rfl, rfl, rfl, rfl, rfl, rfl, rfl, ⟨rfl, fun _ _ => rfl⟩, ⟨rfl, fun _ _ => rfl⟩, ⟨rfl, fun _ _ => rfl⟩, ⟨rfl, fun _ _ => rfl⟩, ?_, (by omega), ?_, rfl, ⟨rfl, fun _ _ => rfl⟩, rfl, trivial⟩ (by omega) (by show _ < _; omega)
                      all_goals first
                        | exact (decide_eq_true (by omega)).symm
                        | (rw [e, ← hN]; exact row_snoc' Std.cells default _ _ 2 rfl)
                  · simp only [Bool.and_eq_false_iff, Bool.not_eq_false', decide_eq_false_iff_not, decide_eq_true_eq] at hc5
                    have hkP : k < P ∨ P < k := by
                      rcases hc5 with h | h
                      · exact .inr h
                      · have := habo k
                        omega
                    have e : outP s N P q (k + 1) = outP s N P q k ++ [s.getD k default] := by
                      rcases hkP with h | h
                      · exact lt h hkl
                      · refine gt h ?_ hkl
                        rw [hq]; split <;> omega
                    have hd : decide (P < k) = decide (P < k + 1) := by
                      rcases hkP with h | h
                      · rw [decide_eq_false (by omega), decide_eq_false (by omega)]
                      · rw [decide_eq_true (by omega), decide_eq_true (by omega)]
                    clear hbel habo
                    refine good_run 9 (obs := []) (by kernel_rfl) trivial ?_
                    refine good_cond (!decide ((List.getD s k default).Shelf = x1)) (by kernel_rfl) (fun hc6 => ?_) (fun hc6 => ?_)
                    · refine good_run 14 (obs := [(0 : Nat) + (2 : Nat) ≤ (2 : Nat), (47 : Nat) = (47 : Nat) ∧ (2 : Nat) = (2 : Nat) ∧ (2 : Nat) = (2 : Nat) ∧ roomOK (List.length (outP s N P q k) + (1 : Nat)) (32 : Nat), InK IntKind.i64 ((↑k : Int) + (1 : Int))]) (by kernel_rfl) (by (first | omega | assumption | exact ⟨rfl, trivial⟩ | simp only [AllP, inK_iff, roomOK_iff, decide_eq_true_eq, Bool.and_eq_true, Bool.or_eq_true, Bool.not_eq_true', decide_eq_false_iff_not, and_true, true_and]; (first | omega | (and_intros <;> intros <;> (try and_intros) <;> first | omega | assumption | exact trivial)))) ?_
                      refine good_backJ (k + 1) [x0 = x0, x1 = x1, x2 = x2, (List.getD b m default).ID = (List.getD b m default).ID, (List.getD b m default).Width = (List.getD b m default).Width, (List.getD b m default).Room = (List.getD b m default).Room, (List.getD b m default).Climate = (List.getD b m default).Climate, List.length (List.getD b m default).Contents = List.length (List.getD b m default).Contents ∧ ∀ (i : Nat), i < List.length (List.getD b m default).Contents → (fun i => Content.cells (List.getD (List.getD b m default).Contents i default)) i = (fun i => Content.cells (List.getD (List.getD b m default).Contents i default)) i, Int.toNat x2 - (0 : Nat) + (1 : Nat) + (List.length (boxesOf s x1) - Int.toNat x2) = Int.toNat x2 - (0 : Nat) + (1 : Nat) + (List.length (boxesOf s x1) - Int.toNat x2) ∧ ∀ (i : Nat), i < Int.toNat x2 - (0 : Nat) + (1 : Nat) + (List.length (boxesOf s x1) - Int.toNat x2) → joinGet (Int.toNat x2 - (0 : Nat) + (1 : Nat)) (joinGet (Int.toNat x2 - (0 : Nat)) (fun i => (fun i => [SV.int IntKind.i64 (List.getD (boxesOf s x1) i (0 : Int))]) (Int.toNat (0 : Int) + i)) (cutRows (1 : Nat) [SV.int IntKind.i64 x0])) (fun i => (fun i => [SV.int IntKind.i64 (List.getD (boxesOf s x1) i (0 : Int))]) (Int.toNat x2 + i)) i = joinGet (Int.toNat x2 - (0 : Nat) + (1 : Nat)) (joinGet (Int.toNat x2 - (0 : Nat)) (fun i => (fun i => [SV.int IntKind.i64 (List.getD (boxesOf s x1) i (0 : Int))]) (Int.toNat (0 : Int) + i)) (cutRows (1 : Nat) [SV.int IntKind.i64 x0])) (fun i => (fun i => [SV.int IntKind.i64 (List.getD (boxesOf s x1) i (0 : Int))]) (Int.toNat x2 + i)) i, (1 : Nat) = (1 : Nat) ∧ ∀ (i : Nat), i < (1 : Nat) → cutRows (1 : Nat) [SV.int IntKind.i64 x0] i = cutRows (1 : Nat) [SV.int IntKind.i64 x0] i, List.length s = List.length s ∧ ∀ (i : Nat), i < List.length s → (fun i => Std.cells (List.getD s i default)) i = (fun i => Std.cells (List.getD s i default)) i, List.length (outP s N P q k) + (1 : Nat) = List.length (outP s N P q (k + (1 : Nat))) ∧ ∀ (i : Nat), i < List.length (outP s N P q k) + (1 : Nat) → joinGet (List.length (outP s N P q k)) (fun i => Std.cells (List.getD (outP s N P q k) i default)) (cutRows (2 : Nat) [SV.int IntKind.i64 (List.getD s k default).Shelf, SV.lst (1 : Nat) (List.length (List.getD s k default).Boxes) fun i => [SV.int IntKind.i64 (List.getD (List.getD s k default).Boxes i (0 : Int))]]) i = (fun i => Std.cells (List.getD (outP s N P q (k + (1 : Nat))) i default)) i, (↑k : Int) + (1 : Int) = (↑(k + (1 : Nat)) : Int), decide (P < k) = decide (P < k + (1 : Nat)), (↑(List.length s) : Int) = (↑(List.length s) : Int), List.length (List.insertIdx (boxesOf s x1) (Int.toNat x2) x0) = List.length (List.insertIdx (boxesOf s x1) (Int.toNat x2) x0) ∧ ∀ (i : Nat), i < List.length (List.insertIdx (boxesOf s x1) (Int.toNat x2) x0) → (fun i => [SV.int IntKind.i64 (List.getD (List.insertIdx (boxesOf s x1) (Int.toNat x2) x0) i (0 : Int))]) i = (fun i => [SV.int IntKind.i64 (List.getD (List.insertIdx (boxesOf s x1) (Int.toNat x2) x0) i (0 : Int))]) i, x1 = x1] (by kernel_rfl) (by kernel_rfl) ⟨rfl, rfl, rfl, rfl, rfl, rfl, rfl, ⟨rfl, fun _ _ => rfl⟩, ⟨rfl, fun _ _ => rfl⟩, ⟨rfl, fun _ _ => rfl⟩, ⟨rfl, fun _ _ => rfl⟩, ?_, (by omega), (by assumption), rfl, ⟨rfl, fun _ _ => rfl⟩, rfl, trivial⟩ (by omega) (by show _ < _; omega)
                      rw [e]
                      exact row_snoc' Std.cells default _ _ 2 rfl
                    · have hi : isK s Std.Shelf x1 = true := by
                        cases hi : isK s Std.Shelf x1 with
                        | false => exact absurd (by simpa using hc6) (hnone hi k hkl)
                        | true => rfl
                      have := hone k hkl hi (by simpa using hc6)
                      omega
                · have hkl : k = s.length := by simp only [decide_eq_false_iff_not] at hc5; omega
                  clear hc5 hbel habo
                  subst hkl
                  refine good_run 2 (obs := []) (by kernel_rfl) trivial ?_
                  refine good_leaveJ (by kernel_rfl) ?_
                  refine good_run 8 (obs := []) (by kernel_rfl) trivial ?_
                  refine good_cond (!decide (P < List.length s)) (by kernel_rfl) (fun hc5 => ?_) (fun hc5 => ?_)
                  · simp only [Bool.not_eq_true', decide_eq_false_iff_not] at hc5
                    rcases hpla with ⟨_, hp, _⟩ | ⟨hi, _, e1⟩
                    · omega
                    · rw [hi, if_neg (by decide)] at hq
                      subst hq
                      have e1 := e1 (by omega)
                      refine good_run 18 (obs := [(47 : Nat) = (47 : Nat) ∧ (2 : Nat) = (2 : Nat) ∧ (2 : Nat) = (2 : Nat) ∧ roomOK (List.length (outP s N q q (List.length s)) + (1 : Nat)) (32 : Nat)]) (by kernel_rfl) (by (first | omega | assumption | exact ⟨rfl, trivial⟩ | simp only [AllP, inK_iff, roomOK_iff, decide_eq_true_eq, Bool.and_eq_true, Bool.or_eq_true, Bool.not_eq_true', decide_eq_false_iff_not, and_true, true_and]; (first | omega | (and_intros <;> intros <;> (try and_intros) <;> first | omega | assumption | exact trivial)))) ?_
                      refine good_fin [List.length (outP s N q q (List.length s)) + (1 : Nat) = List.length (res, (0 : Int)).fst ∧ ∀ (i : Nat), i < List.length (outP s N q q (List.length s)) + (1 : Nat) → joinGet (List.length (outP s N q q (List.length s))) (fun i => Std.cells (List.getD (outP s N q q (List.length s)) i default)) (cutRows (2 : Nat) [SV.int IntKind.i64 x1, SV.lst (1 : Nat) (List.length (List.insertIdx (boxesOf s x1) (Int.toNat x2) x0)) fun i => [SV.int IntKind.i64 (List.getD (List.insertIdx (boxesOf s x1) (Int.toNat x2) x0) i (0 : Int))]]) i = (fun i => Std.cells (List.getD (res, (0 : Int)).fst i default)) i, (0 : Int) = (0 : Int)] (by kernel_rfl) ⟨?_, rfl, trivial⟩
                      rw [← e1, ← hN]
                      exact row_snoc' Std.cells default _ _ 2 rfl
                  · simp only [Bool.not_eq_false', decide_eq_true_eq] at hc5
                    have e1 : outP s N P q s.length = res := by
                      rcases hpla with ⟨hi, _, e1⟩ | ⟨hi, e1, _⟩
                      · rw [hq, hi, if_pos rfl]; exact e1
                      · rw [hq, hi, if_neg (by decide)]; exact e1 hc5
                    rw [e1]
                    refine good_run 9 (obs := []) (by kernel_rfl) trivial ?_
                    refine good_fin [List.length res = List.length (res, (0 : Int)).fst ∧ ∀ (i : Nat), i < List.length res → (fun i => Std.cells (List.getD res i default)) i = (fun i => Std.cells (List.getD (res, (0 : Int)).fst i default)) i, (0 : Int) = (0 : Int)] (by kernel_rfl) ⟨⟨rfl, fun _ _ => rfl⟩, rfl, trivial⟩
        · rw [if_neg hp] at f0
          rw [f0] at hfind
          have s21a := hfind
          rw [if_pos (by omega)] at e0
          rw [e0]
          refine good_run 26 (obs := [True → (0 : Int) ≤ (0 : Int) ∧ (0 : Int) < (3 : Int), True → (0 : Int) ≤ (1 : Int) ∧ (1 : Int) < (3 : Int), True → (0 : Int) ≤ (2 : Int) ∧ (2 : Int) < (3 : Int)]) (by kernel_rfl) (by (first | omega | assumption | exact ⟨rfl, trivial⟩ | simp only [AllP, inK_iff, roomOK_iff, decide_eq_true_eq, Bool.and_eq_true, Bool.or_eq_true, Bool.not_eq_true', decide_eq_false_iff_not, and_true, true_and]; (first | omega | (and_intros <;> intros <;> (try and_intros) <;> first | omega | assumption | exact trivial)))) ?_
          refine good_call (c := True) (by kernel_rfl) (fun _ => SVles.refl _) (fun _ => s21a) (by kernel_rfl) ?_
          refine good_run 20 (obs := []) (by kernel_rfl) trivial ?_
          refine good_cond false (by kernel_rfl) (fun h => nomatch h) (fun _ => ?_)
          refine good_run 5 (obs := []) (by kernel_rfl) trivial ?_
          refine good_call (c := True) (by kernel_rfl) (fun _ => SVles.refl _) (fun _ => s46a) (by kernel_rfl) ?_
          refine good_run 10 (obs := []) (by kernel_rfl) trivial ?_
          refine good_cond (decide ((↑n : Int) < (0 : Int))) (by kernel_rfl) (fun hc1 => ?_) (fun hc1 => ?_)
          · simp only [decide_eq_true_eq] at hc1
            omega
          refine good_run 8 (obs := []) (by kernel_rfl) trivial ?_
          refine good_cond true (by kernel_rfl) (fun _ => ?_) (fun h => nomatch h)
          refine good_run 8 (obs := []) (by kernel_rfl) trivial ?_
          refine good_fin [(0 : Nat) = (0 : Nat), (11 : Int) = (11 : Int)] (by kernel_rfl) ⟨rfl, rfl, trivial⟩
  · have e : placeR l b s x0 x1 x2 = ([], 1) := by rw [placeR, if_pos h]
    have f0 : findR l b s x0 = (0, 0, 1) := by rw [findR, if_pos h]
    rw [f0] at hfind
    have s21a := hfind
    rw [e]
    refine good_run 26 (obs := [True → (0 : Int) ≤ (0 : Int) ∧ (0 : Int) < (3 : Int), True → (0 : Int) ≤ (1 : Int) ∧ (1 : Int) < (3 : Int), True → (0 : Int) ≤ (2 : Int) ∧ (2 : Int) < (3 : Int)]) (by kernel_rfl) (by (first | omega | assumption | exact ⟨rfl, trivial⟩ | simp only [AllP, inK_iff, roomOK_iff, decide_eq_true_eq, Bool.and_eq_true, Bool.or_eq_true, Bool.not_eq_true', decide_eq_false_iff_not, and_true, true_and]; (first | omega | (and_intros <;> intros <;> (try and_intros) <;> first | omega | assumption | exact trivial)))) ?_
    refine good_call (c := True) (by kernel_rfl) (fun _ => SVles.refl _) (fun _ => s21a) (by kernel_rfl) ?_
    refine good_run 20 (obs := []) (by kernel_rfl) trivial ?_
    refine good_cond true (by kernel_rfl) (fun _ => ?_) (fun h => nomatch h)
    refine good_run 9 (obs := []) (by kernel_rfl) trivial ?_
    refine good_fin [(0 : Nat) = (0 : Nat), (1 : Int) = (1 : Int)] (by kernel_rfl) ⟨rfl, rfl, trivial⟩
end Go.Sx.T
