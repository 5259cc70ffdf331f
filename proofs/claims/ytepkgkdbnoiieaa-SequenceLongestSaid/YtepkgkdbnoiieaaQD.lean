/- Contracts of functions of the program, each proved by running its code symbolically (QD). -/
import Derived.Test.YtepkgkdbnoiieaaQB
namespace Go.Sx.T
open Go Go.Proofs Go.Sx
set_option maxRecDepth 100000
set_option maxHeartbeats 4000000
set_option linter.unusedVariables false
set_option linter.unusedSimpArgs false
theorem s69 (n : Int) (h0 : 0 ≤ n) (h1 : n ≤ 100000) : SpecOwn Try.prog 69 [.val (.slice none 0 0), .int .i64 n] 3 1 0 (fun _ => [.int .i64 0]) := by
  refine specOwn_of_good mixed Try.func69 F69_ok (by kernel_rfl) ?_
  refine good_run 12 (obs := []) (by kernel_rfl) trivial ?_
  refine good_cond (decide (n < (0 : Int))) (by kernel_rfl) (fun hc1 => ?_) (fun hc1 => ?_)
  · simp only [decide_eq_true_eq] at hc1; omega
  refine good_run 20 (obs := [True, InK IntKind.i64 ((0 : Int) - (0 : Int)), InK IntKind.i64 (n - ((0 : Int) - (0 : Int)))]) (by kernel_rfl) (by (first | omega | assumption | exact ⟨rfl, trivial⟩ | simp only [AllP, inK_iff, roomOK_iff, decide_eq_true_eq, Bool.and_eq_true, Bool.or_eq_true, Bool.not_eq_true', decide_eq_false_iff_not, and_true, true_and]; (first | omega | (and_intros <;> intros <;> (try and_intros) <;> first | omega | assumption | exact trivial)))) ?_
  refine good_cond (decide ((0 : Int) < n - ((0 : Int) - (0 : Int)))) (by kernel_rfl) (fun hc2 => ?_) (fun hc2 => ?_)
  · simp only [decide_eq_true_eq] at hc2
    refine good_run 20 (obs := [True, (0 : Int) = (0 : Int) ∧ (0 : Int) = (0 : Int), (0 : Int) < n - ((0 : Int) - (0 : Int)) ∧ roomOK (Int.toNat (n - ((0 : Int) - (0 : Int)))) (8 : Nat), (1 : Nat) = (1 : Nat) ∧ (0 : Int) ≤ (0 : Int) ∧ (0 : Int) ≤ (0 : Int) ∧ (0 : Nat) ≤ Int.toNat (n - ((0 : Int) - (0 : Int)))]) (by kernel_rfl) (by (first | omega | assumption | exact ⟨rfl, trivial⟩ | simp only [AllP, inK_iff, roomOK_iff, decide_eq_true_eq, Bool.and_eq_true, Bool.or_eq_true, Bool.not_eq_true', decide_eq_false_iff_not, and_true, true_and]; (first | omega | (and_intros <;> intros <;> (try and_intros) <;> first | omega | assumption | exact trivial)))) ?_
    refine good_finOwn [(0 : Nat) = (0 : Nat) ∧ (0 : Nat) ≤ Int.toNat (n - ((0 : Int) - (0 : Int))) ∧ ∀ (j : Nat), j < (0 : Nat) → (fun x => List.map SV.val [Value.int IntKind.i64 (Int.ofNat (0 : Nat))]) j = (fun x => [SV.int IntKind.i64 (0 : Int)]) j] (by kernel_rfl) ⟨?_, trivial⟩
    exact ⟨rfl, Nat.zero_le _, fun j hj => by omega⟩
  · refine good_run 8 (obs := []) (by kernel_rfl) trivial ?_
    refine good_finOwn [(0 : Nat) = (0 : Nat)] (by kernel_rfl) ⟨rfl, trivial⟩
def szC (a b c : Nat) : Nat → Int
  | 0 => 0
  | 1 => a
  | 2 => a + b
  | _ => a + b + c
/-- The row that Concat has gathered behind k of its three lists. -/
def catN (a b c : Nat) : Nat → Nat
  | 0 => 0
  | 1 => a
  | 2 => a + b
  | _ => a + b + c
def catG (a b : Nat) (f g h : Nat → List SV) : Nat → List SV := joinGet (a + b) (joinGet a f g) h
def catK (a b : Nat) (f g h : Nat → List SV) : Nat → Nat → List SV
  | 0 => f
  | 1 => f
  | 2 => joinGet a f g
  | _ => catG a b f g h
theorem s60 (a b c : Nat) (f g h : Nat → List SV) (hl : a + b + c ≤ 100000) :
    SpecOwn Try.prog 60 [.lst 1 3 (cutRows 1 [.lst 1 a f, .lst 1 b g, .lst 1 c h])] 3 1 (a + b + c) (catG a b f g h) := by
  refine specOwn_of_good mixed Try.func60 F60_ok (by kernel_rfl) ?_
  refine good_run 19 (obs := []) (by kernel_rfl) trivial ?_
  refine good_loopJ (fun k : Nat => ⟨[(11, .sv (.int .i64 (k))), (3, .sv (.int .i64 (szC a b c k))), (10, LV.sv (SV.int IntKind.i64 (3 : Int))), (9, LV.sv (SV.lst (1 : Nat) (3 : Nat) (cutRows (1 : Nat) [SV.lst (1 : Nat) a f, SV.lst (1 : Nat) b g, SV.lst (1 : Nat) c h]))), (0, LV.sv (SV.lst (1 : Nat) (3 : Nat) (cutRows (1 : Nat) [SV.lst (1 : Nat) a f, SV.lst (1 : Nat) b g, SV.lst (1 : Nat) c h])))], []⟩) (fun k => k = 0 ∨ k = 1 ∨ k = 2 ∨ k = 3) (fun k => 3 - k) (0) [(0 : Int) = (0 : Int), (0 : Int) = szC a b c (0 : Nat), (3 : Int) = (3 : Int), (3 : Nat) = (3 : Nat) ∧ ∀ (i : Nat), i < (3 : Nat) → cutRows (1 : Nat) [SV.lst (1 : Nat) a f, SV.lst (1 : Nat) b g, SV.lst (1 : Nat) c h] i = cutRows (1 : Nat) [SV.lst (1 : Nat) a f, SV.lst (1 : Nat) b g, SV.lst (1 : Nat) c h] i, (3 : Nat) = (3 : Nat) ∧ ∀ (i : Nat), i < (3 : Nat) → cutRows (1 : Nat) [SV.lst (1 : Nat) a f, SV.lst (1 : Nat) b g, SV.lst (1 : Nat) c h] i = cutRows (1 : Nat) [SV.lst (1 : Nat) a f, SV.lst (1 : Nat) b g, SV.lst (1 : Nat) c h] i] (by kernel_rfl) (by kernel_rfl) ⟨rfl, (by rfl), rfl, ⟨rfl, fun _ _ => rfl⟩, ⟨rfl, fun _ _ => rfl⟩, trivial⟩ (by omega) ?_
  intro k hk
  have e0 : szC a b c 0 = 0 := rfl
  have e1 : szC a b c 1 = a := rfl
  have e2 : szC a b c 2 = a + b := rfl
  have e3 : szC a b c 3 = a + b + c := rfl
  rcases hk with rfl | rfl | rfl | rfl
  · refine good_run 6 (obs := []) (by kernel_rfl) trivial ?_
    refine good_cond true (by kernel_rfl) (fun _ => ?_) (fun h => nomatch h)
    refine good_run 25 (obs := [(1 : Nat) = (1 : Nat) ∧ (0 : Int) ≤ (0 : Int) ∧ (0 : Int) < (3 : Int), InK IntKind.i64 (szC a b c (0 : Nat) + (↑a : Int))]) (by kernel_rfl) (by (first | omega | assumption | exact ⟨rfl, trivial⟩ | simp only [AllP, inK_iff, roomOK_iff, decide_eq_true_eq, Bool.and_eq_true, Bool.or_eq_true, Bool.not_eq_true', decide_eq_false_iff_not, and_true, true_and]; (first | omega | (and_intros <;> intros <;> (try and_intros) <;> first | omega | assumption | exact trivial)))) ?_
    refine good_cond (decide (szC a b c (0 : Nat) + (↑a : Int) < (0 : Int))) (by kernel_rfl) (fun hc1 => ?_) (fun hc1 => ?_)
    · exfalso; simp only [decide_eq_true_eq] at hc1; omega
    refine good_run 7 (obs := [InK IntKind.i64 ((0 : Int) + (1 : Int))]) (by kernel_rfl) (by (first | omega | assumption | exact ⟨rfl, trivial⟩ | simp only [AllP, inK_iff, roomOK_iff, decide_eq_true_eq, Bool.and_eq_true, Bool.or_eq_true, Bool.not_eq_true', decide_eq_false_iff_not, and_true, true_and]; (first | omega | (and_intros <;> intros <;> (try and_intros) <;> first | omega | assumption | exact trivial)))) ?_
    refine good_backJ (1) [(0 : Int) + (1 : Int) = (1 : Int), szC a b c (0 : Nat) + (↑a : Int) = szC a b c (1 : Nat), (3 : Int) = (3 : Int), (3 : Nat) = (3 : Nat) ∧ ∀ (i : Nat), i < (3 : Nat) → cutRows (1 : Nat) [SV.lst (1 : Nat) a f, SV.lst (1 : Nat) b g, SV.lst (1 : Nat) c h] i = cutRows (1 : Nat) [SV.lst (1 : Nat) a f, SV.lst (1 : Nat) b g, SV.lst (1 : Nat) c h] i, (3 : Nat) = (3 : Nat) ∧ ∀ (i : Nat), i < (3 : Nat) → cutRows (1 : Nat) [SV.lst (1 : Nat) a f, SV.lst (1 : Nat) b g, SV.lst (1 : Nat) c h] i = cutRows (1 : Nat) [SV.lst (1 : Nat) a f, SV.lst (1 : Nat) b g, SV.lst (1 : Nat) c h] i] (by kernel_rfl) (by kernel_rfl) ⟨(by omega), (by omega), rfl, ⟨rfl, fun _ _ => rfl⟩, ⟨rfl, fun _ _ => rfl⟩, trivial⟩ (by omega) (by show _ < _; omega)
  · refine good_run 6 (obs := []) (by kernel_rfl) trivial ?_
    refine good_cond true (by kernel_rfl) (fun _ => ?_) (fun h => nomatch h)
    refine good_run 25 (obs := [(1 : Nat) = (1 : Nat) ∧ (0 : Int) ≤ (1 : Int) ∧ (1 : Int) < (3 : Int), InK IntKind.i64 (szC a b c (1 : Nat) + (↑b : Int))]) (by kernel_rfl) (by (first | omega | assumption | exact ⟨rfl, trivial⟩ | simp only [AllP, inK_iff, roomOK_iff, decide_eq_true_eq, Bool.and_eq_true, Bool.or_eq_true, Bool.not_eq_true', decide_eq_false_iff_not, and_true, true_and]; (first | omega | (and_intros <;> intros <;> (try and_intros) <;> first | omega | assumption | exact trivial)))) ?_
    refine good_cond (decide (szC a b c (1 : Nat) + (↑b : Int) < (0 : Int))) (by kernel_rfl) (fun hc1 => ?_) (fun hc1 => ?_)
    · exfalso; simp only [decide_eq_true_eq] at hc1; omega
    refine good_run 7 (obs := [InK IntKind.i64 ((1 : Int) + (1 : Int))]) (by kernel_rfl) (by (first | omega | assumption | exact ⟨rfl, trivial⟩ | simp only [AllP, inK_iff, roomOK_iff, decide_eq_true_eq, Bool.and_eq_true, Bool.or_eq_true, Bool.not_eq_true', decide_eq_false_iff_not, and_true, true_and]; (first | omega | (and_intros <;> intros <;> (try and_intros) <;> first | omega | assumption | exact trivial)))) ?_
    refine good_backJ (2) [(1 : Int) + (1 : Int) = (2 : Int), szC a b c (1 : Nat) + (↑b : Int) = szC a b c (2 : Nat), (3 : Int) = (3 : Int), (3 : Nat) = (3 : Nat) ∧ ∀ (i : Nat), i < (3 : Nat) → cutRows (1 : Nat) [SV.lst (1 : Nat) a f, SV.lst (1 : Nat) b g, SV.lst (1 : Nat) c h] i = cutRows (1 : Nat) [SV.lst (1 : Nat) a f, SV.lst (1 : Nat) b g, SV.lst (1 : Nat) c h] i, (3 : Nat) = (3 : Nat) ∧ ∀ (i : Nat), i < (3 : Nat) → cutRows (1 : Nat) [SV.lst (1 : Nat) a f, SV.lst (1 : Nat) b g, SV.lst (1 : Nat) c h] i = cutRows (1 : Nat) [SV.lst (1 : Nat) a f, SV.lst (1 : Nat) b g, SV.lst (1 : Nat) c h] i] (by kernel_rfl) (by kernel_rfl) ⟨(by omega), (by omega), rfl, ⟨rfl, fun _ _ => rfl⟩, ⟨rfl, fun _ _ => rfl⟩, trivial⟩ (by omega) (by show _ < _; omega)
  · refine good_run 6 (obs := []) (by kernel_rfl) trivial ?_
    refine good_cond true (by kernel_rfl) (fun _ => ?_) (fun h => nomatch h)
    refine good_run 25 (obs := [(1 : Nat) = (1 : Nat) ∧ (0 : Int) ≤ (2 : Int) ∧ (2 : Int) < (3 : Int), InK IntKind.i64 (szC a b c (2 : Nat) + (↑c : Int))]) (by kernel_rfl) (by (first | omega | assumption | exact ⟨rfl, trivial⟩ | simp only [AllP, inK_iff, roomOK_iff, decide_eq_true_eq, Bool.and_eq_true, Bool.or_eq_true, Bool.not_eq_true', decide_eq_false_iff_not, and_true, true_and]; (first | omega | (and_intros <;> intros <;> (try and_intros) <;> first | omega | assumption | exact trivial)))) ?_
    refine good_cond (decide (szC a b c (2 : Nat) + (↑c : Int) < (0 : Int))) (by kernel_rfl) (fun hc1 => ?_) (fun hc1 => ?_)
    · exfalso; simp only [decide_eq_true_eq] at hc1; omega
    refine good_run 7 (obs := [InK IntKind.i64 ((2 : Int) + (1 : Int))]) (by kernel_rfl) (by (first | omega | assumption | exact ⟨rfl, trivial⟩ | simp only [AllP, inK_iff, roomOK_iff, decide_eq_true_eq, Bool.and_eq_true, Bool.or_eq_true, Bool.not_eq_true', decide_eq_false_iff_not, and_true, true_and]; (first | omega | (and_intros <;> intros <;> (try and_intros) <;> first | omega | assumption | exact trivial)))) ?_
    refine good_backJ (3) [(2 : Int) + (1 : Int) = (3 : Int), szC a b c (2 : Nat) + (↑c : Int) = szC a b c (3 : Nat), (3 : Int) = (3 : Int), (3 : Nat) = (3 : Nat) ∧ ∀ (i : Nat), i < (3 : Nat) → cutRows (1 : Nat) [SV.lst (1 : Nat) a f, SV.lst (1 : Nat) b g, SV.lst (1 : Nat) c h] i = cutRows (1 : Nat) [SV.lst (1 : Nat) a f, SV.lst (1 : Nat) b g, SV.lst (1 : Nat) c h] i, (3 : Nat) = (3 : Nat) ∧ ∀ (i : Nat), i < (3 : Nat) → cutRows (1 : Nat) [SV.lst (1 : Nat) a f, SV.lst (1 : Nat) b g, SV.lst (1 : Nat) c h] i = cutRows (1 : Nat) [SV.lst (1 : Nat) a f, SV.lst (1 : Nat) b g, SV.lst (1 : Nat) c h] i] (by kernel_rfl) (by kernel_rfl) ⟨(by omega), (by omega), rfl, ⟨rfl, fun _ _ => rfl⟩, ⟨rfl, fun _ _ => rfl⟩, trivial⟩ (by omega) (by show _ < _; omega)
  · refine good_run 6 (obs := []) (by kernel_rfl) trivial ?_
    refine good_cond false (by kernel_rfl) (fun h => nomatch h) (fun _ => ?_)
    refine good_run 2 (obs := []) (by kernel_rfl) trivial ?_
    refine good_leaveJ (by kernel_rfl) ?_
    refine good_run 4 (obs := []) (by kernel_rfl) trivial ?_
    refine good_own (c := True) (by kernel_rfl) (by kernel_rfl) (SVles.refl _) (s69 (szC a b c (3 : Nat)) (by (first | omega | assumption | exact ⟨rfl, trivial⟩ | simp only [AllP, inK_iff, roomOK_iff, decide_eq_true_eq, Bool.and_eq_true, Bool.or_eq_true, Bool.not_eq_true', decide_eq_false_iff_not, and_true, true_and]; (first | omega | (and_intros <;> intros <;> (try and_intros) <;> first | omega | assumption | exact trivial)))) (by (first | omega | assumption | exact ⟨rfl, trivial⟩ | simp only [AllP, inK_iff, roomOK_iff, decide_eq_true_eq, Bool.and_eq_true, Bool.or_eq_true, Bool.not_eq_true', decide_eq_false_iff_not, and_true, true_and]; (first | omega | (and_intros <;> intros <;> (try and_intros) <;> first | omega | assumption | exact trivial))))) ?_
    refine good_run 12 (obs := []) (by kernel_rfl) trivial ?_
    refine good_loopJ (fun k : Nat => ⟨[(27, .sv (.int .i64 (k))), (6, .own 0), (26, LV.sv (SV.int IntKind.i64 (3 : Int))), (25, LV.sv (SV.lst (1 : Nat) (3 : Nat) (cutRows (1 : Nat) [SV.lst (1 : Nat) a f, SV.lst (1 : Nat) b g, SV.lst (1 : Nat) c h])))], [.row 3 1 (catN a b c k) true (catK a b f g h k)]⟩) (fun k => k = 0 ∨ k = 1 ∨ k = 2 ∨ k = 3) (fun k => 3 - k) (0) [(0 : Nat) = catN a b c (0 : Nat) ∧ ∀ (i : Nat), i < (0 : Nat) → (fun x => [SV.int IntKind.i64 (0 : Int)]) i = catK a b f g h (0 : Nat) i, (0 : Int) = (0 : Int), (3 : Int) = (3 : Int), (3 : Nat) = (3 : Nat) ∧ ∀ (i : Nat), i < (3 : Nat) → cutRows (1 : Nat) [SV.lst (1 : Nat) a f, SV.lst (1 : Nat) b g, SV.lst (1 : Nat) c h] i = cutRows (1 : Nat) [SV.lst (1 : Nat) a f, SV.lst (1 : Nat) b g, SV.lst (1 : Nat) c h] i] (by kernel_rfl) (by kernel_rfl) ⟨?_, rfl, rfl, ⟨rfl, fun _ _ => rfl⟩, trivial⟩ (by omega) ?_
    · exact ⟨rfl, fun _ h => absurd h (Nat.not_lt_zero _)⟩
    intro k hk
    have n0 : catN a b c 0 = 0 := rfl
    have n1 : catN a b c 1 = a := rfl
    have n2 : catN a b c 2 = a + b := rfl
    have n3 : catN a b c 3 = a + b + c := rfl
    rcases hk with rfl | rfl | rfl | rfl
    · refine good_run 6 (obs := []) (by kernel_rfl) trivial ?_
      refine good_cond true (by kernel_rfl) (fun _ => ?_) (fun h => nomatch h)
      refine good_run 23 (obs := [(1 : Nat) = (1 : Nat) ∧ (0 : Int) ≤ (0 : Int) ∧ (0 : Int) < (3 : Int), (3 : Nat) = (3 : Nat) ∧ (1 : Nat) = (1 : Nat) ∧ (1 : Nat) = (1 : Nat) ∧ roomOK (catN a b c (0 : Nat) + a) (8 : Nat), InK IntKind.i64 ((0 : Int) + (1 : Int))]) (by kernel_rfl) (by (first | omega | assumption | exact ⟨rfl, trivial⟩ | simp only [AllP, inK_iff, roomOK_iff, decide_eq_true_eq, Bool.and_eq_true, Bool.or_eq_true, Bool.not_eq_true', decide_eq_false_iff_not, and_true, true_and]; (first | omega | (and_intros <;> intros <;> (try and_intros) <;> first | omega | assumption | exact trivial)))) ?_
      refine good_backJ (1) [catN a b c (0 : Nat) + a = catN a b c (1 : Nat) ∧ ∀ (i : Nat), i < catN a b c (0 : Nat) + a → joinGet (catN a b c (0 : Nat)) (catK a b f g h (0 : Nat)) f i = catK a b f g h (1 : Nat) i, (0 : Int) + (1 : Int) = (1 : Int), (3 : Int) = (3 : Int), (3 : Nat) = (3 : Nat) ∧ ∀ (i : Nat), i < (3 : Nat) → cutRows (1 : Nat) [SV.lst (1 : Nat) a f, SV.lst (1 : Nat) b g, SV.lst (1 : Nat) c h] i = cutRows (1 : Nat) [SV.lst (1 : Nat) a f, SV.lst (1 : Nat) b g, SV.lst (1 : Nat) c h] i] (by kernel_rfl) (by kernel_rfl) ⟨?_, (by omega), rfl, ⟨rfl, fun _ _ => rfl⟩, trivial⟩ (by omega) (by show _ < _; omega)
      refine ⟨by omega, fun i hi => ?_⟩
      rw [n0, joinGet, if_neg (Nat.not_lt_zero i), Nat.sub_zero]
      rfl
    · refine good_run 6 (obs := []) (by kernel_rfl) trivial ?_
      refine good_cond true (by kernel_rfl) (fun _ => ?_) (fun h => nomatch h)
      refine good_run 23 (obs := [(1 : Nat) = (1 : Nat) ∧ (0 : Int) ≤ (1 : Int) ∧ (1 : Int) < (3 : Int), (3 : Nat) = (3 : Nat) ∧ (1 : Nat) = (1 : Nat) ∧ (1 : Nat) = (1 : Nat) ∧ roomOK (catN a b c (1 : Nat) + b) (8 : Nat), InK IntKind.i64 ((1 : Int) + (1 : Int))]) (by kernel_rfl) (by (first | omega | assumption | exact ⟨rfl, trivial⟩ | simp only [AllP, inK_iff, roomOK_iff, decide_eq_true_eq, Bool.and_eq_true, Bool.or_eq_true, Bool.not_eq_true', decide_eq_false_iff_not, and_true, true_and]; (first | omega | (and_intros <;> intros <;> (try and_intros) <;> first | omega | assumption | exact trivial)))) ?_
      refine good_backJ (2) [catN a b c (1 : Nat) + b = catN a b c (2 : Nat) ∧ ∀ (i : Nat), i < catN a b c (1 : Nat) + b → joinGet (catN a b c (1 : Nat)) (catK a b f g h (1 : Nat)) g i = catK a b f g h (2 : Nat) i, (1 : Int) + (1 : Int) = (2 : Int), (3 : Int) = (3 : Int), (3 : Nat) = (3 : Nat) ∧ ∀ (i : Nat), i < (3 : Nat) → cutRows (1 : Nat) [SV.lst (1 : Nat) a f, SV.lst (1 : Nat) b g, SV.lst (1 : Nat) c h] i = cutRows (1 : Nat) [SV.lst (1 : Nat) a f, SV.lst (1 : Nat) b g, SV.lst (1 : Nat) c h] i] (by kernel_rfl) (by kernel_rfl) ⟨?_, (by omega), rfl, ⟨rfl, fun _ _ => rfl⟩, trivial⟩ (by omega) (by show _ < _; omega)
      exact ⟨by omega, fun i hi => rfl⟩
    · refine good_run 6 (obs := []) (by kernel_rfl) trivial ?_
      refine good_cond true (by kernel_rfl) (fun _ => ?_) (fun h => nomatch h)
      refine good_run 23 (obs := [(1 : Nat) = (1 : Nat) ∧ (0 : Int) ≤ (2 : Int) ∧ (2 : Int) < (3 : Int), (3 : Nat) = (3 : Nat) ∧ (1 : Nat) = (1 : Nat) ∧ (1 : Nat) = (1 : Nat) ∧ roomOK (catN a b c (2 : Nat) + c) (8 : Nat), InK IntKind.i64 ((2 : Int) + (1 : Int))]) (by kernel_rfl) (by (first | omega | assumption | exact ⟨rfl, trivial⟩ | simp only [AllP, inK_iff, roomOK_iff, decide_eq_true_eq, Bool.and_eq_true, Bool.or_eq_true, Bool.not_eq_true', decide_eq_false_iff_not, and_true, true_and]; (first | omega | (and_intros <;> intros <;> (try and_intros) <;> first | omega | assumption | exact trivial)))) ?_
      refine good_backJ (3) [catN a b c (2 : Nat) + c = catN a b c (3 : Nat) ∧ ∀ (i : Nat), i < catN a b c (2 : Nat) + c → joinGet (catN a b c (2 : Nat)) (catK a b f g h (2 : Nat)) h i = catK a b f g h (3 : Nat) i, (2 : Int) + (1 : Int) = (3 : Int), (3 : Int) = (3 : Int), (3 : Nat) = (3 : Nat) ∧ ∀ (i : Nat), i < (3 : Nat) → cutRows (1 : Nat) [SV.lst (1 : Nat) a f, SV.lst (1 : Nat) b g, SV.lst (1 : Nat) c h] i = cutRows (1 : Nat) [SV.lst (1 : Nat) a f, SV.lst (1 : Nat) b g, SV.lst (1 : Nat) c h] i] (by kernel_rfl) (by kernel_rfl) ⟨?_, (by omega), rfl, ⟨rfl, fun _ _ => rfl⟩, trivial⟩ (by omega) (by show _ < _; omega)
      exact ⟨by omega, fun i hi => rfl⟩
    · refine good_run 6 (obs := []) (by kernel_rfl) trivial ?_
      refine good_cond false (by kernel_rfl) (fun h => nomatch h) (fun _ => ?_)
      refine good_run 2 (obs := []) (by kernel_rfl) trivial ?_
      refine good_leaveJ (by kernel_rfl) ?_
      refine good_run 8 (obs := []) (by kernel_rfl) trivial ?_
      refine good_finOwn [catN a b c (3 : Nat) = a + b + c ∧ ∀ (j : Nat), j < a + b + c → catK a b f g h (3 : Nat) j = catG a b f g h j] (by kernel_rfl) ⟨?_, trivial⟩
      exact ⟨by omega, fun i hi => rfl⟩
end Go.Sx.T
