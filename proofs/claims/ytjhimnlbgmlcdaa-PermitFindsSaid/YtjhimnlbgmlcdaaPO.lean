/- Contracts of functions of the program, each proved by running its code symbolically (PO). -/
import Derived.Test.YtjhimnlbgmlcdaaPN
namespace Go.Sx.T
open Go Go.Proofs Go.Sx
set_option maxRecDepth 100000
set_option maxHeartbeats 4000000
set_option linter.unusedVariables false
set_option linter.unusedSimpArgs false
theorem s33 (a b : List Int) : Spec Try.prog 33 [ints a, ints b] (.bool (decide (a = b))) := by
  refine spec_len 0 rfl (hasBody_of_slim Try.func33 F33_ok) fun hlen => ?_
  refine spec_of_good mixed Try.func33 F33_ok (by kernel_rfl) ?_
  refine good_run 15 (obs := []) (by kernel_rfl) trivial ?_
  refine good_cond (!decide ((↑(List.length a) : Int) = (↑(List.length b) : Int))) (by kernel_rfl) (fun hc1 => ?_) (fun hc1 => ?_)
  · simp only [Bool.not_eq_true', decide_eq_false_iff_not] at hc1
    have : decide (a = b) = false := decide_eq_false fun e => hc1 (by rw [e])
    rw [this]
    refine good_run 7 (obs := []) (by kernel_rfl) trivial ?_
    refine good_fin [false = false] (by kernel_rfl) ⟨rfl, trivial⟩
  · simp only [Bool.not_eq_false', decide_eq_true_eq] at hc1
    have hab : a.length = b.length := by omega
    refine good_run 10 (obs := []) (by kernel_rfl) trivial ?_
    refine good_loopJ (fun k : Nat => ⟨[(13, .sv (.int .i64 (k))), (12, LV.sv (SV.int IntKind.i64 (↑(List.length a) : Int))), (0, LV.sv (SV.lst (1 : Nat) (List.length a) fun i => [SV.int IntKind.i64 (List.getD a i (0 : Int))])), (1, LV.sv (SV.lst (1 : Nat) (List.length b) fun i => [SV.int IntKind.i64 (List.getD b i (0 : Int))]))], []⟩) (fun k => k ≤ a.length ∧ ∀ i, i < k → a.getD i 0 = b.getD i 0) (fun k => a.length - k) (0) [(0 : Int) = (0 : Int), (↑(List.length a) : Int) = (↑(List.length a) : Int), List.length a = List.length a ∧ ∀ (i : Nat), i < List.length a → (fun i => [SV.int IntKind.i64 (List.getD a i (0 : Int))]) i = (fun i => [SV.int IntKind.i64 (List.getD a i (0 : Int))]) i, List.length b = List.length b ∧ ∀ (i : Nat), i < List.length b → (fun i => [SV.int IntKind.i64 (List.getD b i (0 : Int))]) i = (fun i => [SV.int IntKind.i64 (List.getD b i (0 : Int))]) i] (by kernel_rfl) (by kernel_rfl) ⟨rfl, rfl, ⟨rfl, fun _ _ => rfl⟩, ⟨rfl, fun _ _ => rfl⟩, trivial⟩ ⟨by omega, by omega⟩ ?_
    intro k hk
    refine good_run 6 (obs := []) (by kernel_rfl) trivial ?_
    refine good_cond (decide ((↑k : Int) < (↑(List.length a) : Int))) (by kernel_rfl) (fun hc2 => ?_) (fun hc2 => ?_)
    · have hlt : k < a.length := by simp only [decide_eq_true_eq] at hc2; omega
      refine good_run 22 (obs := [True → (1 : Nat) = (1 : Nat) ∧ (0 : Int) ≤ (↑k : Int) ∧ (↑k : Int) < (↑(List.length a) : Int), True → (1 : Nat) = (1 : Nat) ∧ (0 : Int) ≤ (↑k : Int) ∧ (↑k : Int) < (↑(List.length b) : Int)]) (by kernel_rfl) (by (first | omega | assumption | exact ⟨rfl, trivial⟩ | simp only [AllP, inK_iff, roomOK_iff, decide_eq_true_eq, Bool.and_eq_true, Bool.or_eq_true, Bool.not_eq_true', decide_eq_false_iff_not, and_true, true_and]; (first | omega | (and_intros <;> intros <;> (try and_intros) <;> first | omega | assumption | exact trivial)))) ?_
      refine good_cond (!decide (List.getD a k (0 : Int) = List.getD b k (0 : Int))) (by kernel_rfl) (fun hc3 => ?_) (fun hc3 => ?_)
      · have hne : a.getD k 0 ≠ b.getD k 0 := by simpa only [Bool.not_eq_true', decide_eq_false_iff_not] using hc3
        have : decide (a = b) = false := decide_eq_false fun e => hne (by rw [e])
        rw [this]
        refine good_run 8 (obs := []) (by kernel_rfl) trivial ?_
        refine good_leaveJ (by kernel_rfl) ?_
        refine good_run 2 (obs := []) (by kernel_rfl) trivial ?_
        refine good_fin [false = false] (by kernel_rfl) ⟨rfl, trivial⟩
      · have he : a.getD k 0 = b.getD k 0 := by simpa only [Bool.not_eq_false', decide_eq_true_eq] using hc3
        refine good_run 7 (obs := [InK IntKind.i64 ((↑k : Int) + (1 : Int))]) (by kernel_rfl) (by (first | omega | assumption | exact ⟨rfl, trivial⟩ | simp only [AllP, inK_iff, roomOK_iff, decide_eq_true_eq, Bool.and_eq_true, Bool.or_eq_true, Bool.not_eq_true', decide_eq_false_iff_not, and_true, true_and]; (first | omega | (and_intros <;> intros <;> (try and_intros) <;> first | omega | assumption | exact trivial)))) ?_
        refine good_backJ (k + 1) [(↑k : Int) + (1 : Int) = (↑(k + (1 : Nat)) : Int), (↑(List.length a) : Int) = (↑(List.length a) : Int), List.length a = List.length a ∧ ∀ (i : Nat), i < List.length a → (fun i => [SV.int IntKind.i64 (List.getD a i (0 : Int))]) i = (fun i => [SV.int IntKind.i64 (List.getD a i (0 : Int))]) i, List.length b = List.length b ∧ ∀ (i : Nat), i < List.length b → (fun i => [SV.int IntKind.i64 (List.getD b i (0 : Int))]) i = (fun i => [SV.int IntKind.i64 (List.getD b i (0 : Int))]) i] (by kernel_rfl) (by kernel_rfl) ⟨(by omega), rfl, ⟨rfl, fun _ _ => rfl⟩, ⟨rfl, fun _ _ => rfl⟩, trivial⟩ ?_ (by show _ < _; omega)
        exact ⟨hlt, fun i hi => by
          rcases Nat.lt_or_ge i k with h | h
          · exact hk.2 i h
          · have : i = k := by omega
            subst this; exact he⟩
    · have hge : k = a.length := by simp only [decide_eq_false_iff_not] at hc2; have := hk.1; omega
      have : decide (a = b) = true := decide_eq_true (ext_getD a b hab fun i hi => hk.2 i (by omega))
      rw [this]
      refine good_run 2 (obs := []) (by kernel_rfl) trivial ?_
      refine good_leaveJ (by kernel_rfl) ?_
      refine good_run 7 (obs := []) (by kernel_rfl) trivial ?_
      refine good_fin [true = true] (by kernel_rfl) ⟨rfl, trivial⟩
theorem s31 (l : List Permit) (reader : Int) (path : List Int) (kind day : Int) : Spec Try.prog 31 [permits l, .int .i64 reader, ints path, .int .i64 kind, .int .i64 day] (.tup [.int .i64 (firstP l reader path kind day).1, .bool (firstP l reader path kind day).2]) := by
  refine spec_len 0 rfl (hasBody_of_slim Try.func31 F31_ok) fun hlen => ?_
  refine spec_of_good mixed Try.func31 F31_ok (by kernel_rfl) ?_
  refine good_run 10 (obs := []) (by kernel_rfl) trivial ?_
  refine good_call (c := True) (by kernel_rfl) (fun _ => SVles.refl _) (fun _ => s18 (l)) (by kernel_rfl) ?_
  refine good_run 3 (obs := []) (by kernel_rfl) trivial ?_
  refine good_cond (!decide (check l = (0 : Int))) (by kernel_rfl) (fun hc1 => ?_) (fun hc1 => ?_)
  · have e : firstP l reader path kind day = (0, false) := by rw [firstP, if_pos (by simpa using hc1)]
    rw [e]
    refine good_run 8 (obs := []) (by kernel_rfl) trivial ?_
    refine good_fin [(0 : Int) = (0 : Int), false = false] (by kernel_rfl) ⟨rfl, rfl, trivial⟩
  · have hc : check l = 0 := by simpa using hc1
    refine good_run 10 (obs := []) (by kernel_rfl) trivial ?_
    refine good_loopJ (fun k : Nat => ⟨[(19, .sv (.int .i64 (k))), (18, LV.sv (SV.int IntKind.i64 (↑(List.length l) : Int))), (17, LV.sv (SV.lst (6 : Nat) (List.length l) fun i => Permit.cells (List.getD l i default))), (1, LV.sv (SV.int IntKind.i64 reader)), (2, LV.sv (SV.lst (1 : Nat) (List.length path) fun i => [SV.int IntKind.i64 (List.getD path i (0 : Int))])), (3, LV.sv (SV.int IntKind.i64 kind)), (4, LV.sv (SV.int IntKind.i64 day))], []⟩) (fun k => k ≤ l.length ∧ ∀ j, j < k → coversB (l.getD j default) reader path kind day = false) (fun k => l.length - k) (0) [(0 : Int) = (0 : Int), (↑(List.length l) : Int) = (↑(List.length l) : Int), List.length l = List.length l ∧ ∀ (i : Nat), i < List.length l → (fun i => Permit.cells (List.getD l i default)) i = (fun i => Permit.cells (List.getD l i default)) i, reader = reader, List.length path = List.length path ∧ ∀ (i : Nat), i < List.length path → (fun i => [SV.int IntKind.i64 (List.getD path i (0 : Int))]) i = (fun i => [SV.int IntKind.i64 (List.getD path i (0 : Int))]) i, kind = kind, day = day] (by kernel_rfl) (by kernel_rfl) ⟨rfl, rfl, ⟨rfl, fun _ _ => rfl⟩, rfl, ⟨rfl, fun _ _ => rfl⟩, rfl, rfl, trivial⟩ ⟨by omega, by omega⟩ ?_
    intro k hk
    refine good_run 6 (obs := []) (by kernel_rfl) trivial ?_
    refine good_cond (decide ((↑k : Int) < (↑(List.length l) : Int))) (by kernel_rfl) (fun hc2 => ?_) (fun hc2 => ?_)
    · have hlt : k < l.length := by simp only [decide_eq_true_eq] at hc2; omega
      refine good_run 18 (obs := [(6 : Nat) = (6 : Nat) ∧ (0 : Int) ≤ (↑k : Int) ∧ (↑k : Int) < (↑(List.length l) : Int), (0 : Nat) + (6 : Nat) ≤ (6 : Nat), (6 : Nat) = (6 : Nat) ∧ (0 : Nat) + (6 : Nat) ≤ (6 : Nat), (0 : Nat) + (6 : Nat) ≤ (6 : Nat)]) (by kernel_rfl) (by (first | omega | assumption | exact ⟨rfl, trivial⟩ | simp only [AllP, inK_iff, roomOK_iff, decide_eq_true_eq, Bool.and_eq_true, Bool.or_eq_true, Bool.not_eq_true', decide_eq_false_iff_not, and_true, true_and]; (first | omega | (and_intros <;> intros <;> (try and_intros) <;> first | omega | assumption | exact trivial)))) ?_
      refine good_call (c := True) (by kernel_rfl) (fun _ => SVles.refl _) (fun _ => s15 (List.getD l k default) (reader) (path) (kind) (day)) (by kernel_rfl) ?_
      refine good_run 2 (obs := []) (by kernel_rfl) trivial ?_
      refine good_cond (coversB (List.getD l k default) reader path kind day) (by kernel_rfl) (fun hc3 => ?_) (fun hc3 => ?_)
      · have e : l.find? (fun p => coversB p reader path kind day) = some (l.getD k default) := by
          rw [List.find?_eq_some_iff_getElem]
          exact ⟨hc3, k, hlt, by rw [getD_of_lt l k hlt], fun j hj => by have := hk.2 j hj; rw [getD_of_lt l j (by omega)] at this; rw [this]; rfl⟩
        have e2 : firstP l reader path kind day = ((l.getD k default).ID, true) := by rw [firstP, if_neg (by simp [hc]), e]
        rw [e2]
        refine good_run 11 (obs := []) (by kernel_rfl) trivial ?_
        refine good_leaveJ (by kernel_rfl) ?_
        refine good_run 2 (obs := []) (by kernel_rfl) trivial ?_
        refine good_fin [(List.getD l k default).ID = (List.getD l k default).ID, true = true] (by kernel_rfl) ⟨rfl, rfl, trivial⟩
      · refine good_run 7 (obs := [InK IntKind.i64 ((↑k : Int) + (1 : Int))]) (by kernel_rfl) (by (first | omega | assumption | exact ⟨rfl, trivial⟩ | simp only [AllP, inK_iff, roomOK_iff, decide_eq_true_eq, Bool.and_eq_true, Bool.or_eq_true, Bool.not_eq_true', decide_eq_false_iff_not, and_true, true_and]; (first | omega | (and_intros <;> intros <;> (try and_intros) <;> first | omega | assumption | exact trivial)))) ?_
        have hnx : k + 1 ≤ l.length ∧ ∀ j, j < k + 1 → coversB (l.getD j default) reader path kind day = false := ⟨hlt, fun j hj => by
          rcases Nat.lt_or_ge j k with h | h
          · exact hk.2 j h
          · have : j = k := by omega
            subst this; exact hc3⟩
        refine good_backJ (k + 1) [(↑k : Int) + (1 : Int) = (↑(k + (1 : Nat)) : Int), (↑(List.length l) : Int) = (↑(List.length l) : Int), List.length l = List.length l ∧ ∀ (i : Nat), i < List.length l → (fun i => Permit.cells (List.getD l i default)) i = (fun i => Permit.cells (List.getD l i default)) i, reader = reader, List.length path = List.length path ∧ ∀ (i : Nat), i < List.length path → (fun i => [SV.int IntKind.i64 (List.getD path i (0 : Int))]) i = (fun i => [SV.int IntKind.i64 (List.getD path i (0 : Int))]) i, kind = kind, day = day] (by kernel_rfl) (by kernel_rfl) ⟨(by omega), rfl, ⟨rfl, fun _ _ => rfl⟩, rfl, ⟨rfl, fun _ _ => rfl⟩, rfl, rfl, trivial⟩ (by omega) (by show _ < _; omega)
    · have hge : k = l.length := by simp only [decide_eq_false_iff_not] at hc2; omega
      have e : l.find? (fun p => coversB p reader path kind day) = none := by
        rw [List.find?_eq_none]
        intro p hp
        obtain ⟨j, hj, e⟩ := List.mem_iff_getElem.1 hp
        have := hk.2 j (by omega)
        rw [getD_of_lt l j hj, e] at this
        rw [this]; decide
      have e2 : firstP l reader path kind day = (0, false) := by rw [firstP, if_neg (by simp [hc]), e]
      rw [e2]
      refine good_run 2 (obs := []) (by kernel_rfl) trivial ?_
      refine good_leaveJ (by kernel_rfl) ?_
      refine good_run 8 (obs := []) (by kernel_rfl) trivial ?_
      refine good_fin [(0 : Int) = (0 : Int), false = false] (by kernel_rfl) ⟨rfl, rfl, trivial⟩
def kN (l : List Permit) (reader : Int) (path : List Int) (day : Int) : Nat → Int
  | 0 => 0
  | k + 1 => kN l reader path day k + if (firstP l reader path ((k : Int) + 1) day).2 = true then 2 ^ k else 0
theorem kN_le (l : List Permit) (reader : Int) (path : List Int) (day : Int) (k : Nat) (hk : k ≤ 3) : 0 ≤ kN l reader path day k ∧ kN l reader path day k ≤ 7 := by
  have h0 : kN l reader path day 0 = 0 := rfl
  have h1 : kN l reader path day 1 = kN l reader path day 0 + if (firstP l reader path (((0 : Nat) : Int) + 1) day).2 = true then 2 ^ 0 else 0 := rfl
  have h2 : kN l reader path day 2 = kN l reader path day 1 + if (firstP l reader path (((1 : Nat) : Int) + 1) day).2 = true then 2 ^ 1 else 0 := rfl
  have h3 : kN l reader path day 3 = kN l reader path day 2 + if (firstP l reader path (((2 : Nat) : Int) + 1) day).2 = true then 2 ^ 2 else 0 := rfl
  have : k = 0 ∨ k = 1 ∨ k = 2 ∨ k = 3 := by omega
  split at h1 <;> split at h2 <;> split at h3 <;> rcases this with rfl | rfl | rfl | rfl <;> omega
theorem kN_eq (l : List Permit) (reader : Int) (path : List Int) (day : Int) : kN l reader path day 3 = kindsR l reader path day := by
  have hr := kinds_range l reader path day
  have hb : ∀ k : Nat, k < 3 → (if (firstP l reader path ((k : Int) + 1) day).2 = true then (2 ^ k : Int) else 0) = kindsR l reader path day / 2 ^ k % 2 * 2 ^ k := fun k hk => by
    have h1 := bits_law l reader path day k hk
    have hh := half_le (kindsR l reader path day) k hr
    rw [← h1]
    by_cases h : kindsR l reader path day / 2 ^ k % 2 = 1
    · rw [if_pos (decide_eq_true ((and_one _ hh.1).2 h)), h, Int.one_mul]
    · have h0 : kindsR l reader path day / 2 ^ k % 2 = 0 := by omega
      rw [if_neg (by rw [decide_eq_true_eq]; exact fun h' => h ((and_one _ hh.1).1 h')), h0, Int.zero_mul]
  have b0 := hb 0 (by decide)
  have b1 := hb 1 (by decide)
  have b2 := hb 2 (by decide)
  show (0 : Int) + (if (firstP l reader path (((0 : Nat) : Int) + 1) day).2 = true then 2 ^ 0 else 0) + (if (firstP l reader path (((1 : Nat) : Int) + 1) day).2 = true then 2 ^ 1 else 0) + (if (firstP l reader path (((2 : Nat) : Int) + 1) day).2 = true then 2 ^ 2 else 0) = _
  rw [b0, b1, b2]
  omega
theorem s32 (l : List Permit) (reader : Int) (path : List Int) (day : Int) : Spec Try.prog 32 [permits l, .int .i64 reader, ints path, .int .i64 day] (.int .i64 (kindsR l reader path day)) := by
  refine spec_of_good mixed Try.func32 F32_ok (by kernel_rfl) ?_
  rw [← kN_eq]
  refine good_run 17 (obs := []) (by kernel_rfl) trivial ?_
  refine good_loopJ (fun k : Nat => ⟨[(10, .sv (.int .i64 (((k : Int) + 1)))), (9, .sv (.int .i64 (kN l reader path day k))), (0, LV.sv (SV.lst (6 : Nat) (List.length l) fun i => Permit.cells (List.getD l i default))), (1, LV.sv (SV.int IntKind.i64 reader)), (2, LV.sv (SV.lst (1 : Nat) (List.length path) fun i => [SV.int IntKind.i64 (List.getD path i (0 : Int))])), (3, LV.sv (SV.int IntKind.i64 day))], []⟩) (fun k => k ≤ 3) (fun k => 3 - k) (0) [(1 : Int) = (0 : Int) + (1 : Int), (0 : Int) = kN l reader path day (0 : Nat), List.length l = List.length l ∧ ∀ (i : Nat), i < List.length l → (fun i => Permit.cells (List.getD l i default)) i = (fun i => Permit.cells (List.getD l i default)) i, reader = reader, List.length path = List.length path ∧ ∀ (i : Nat), i < List.length path → (fun i => [SV.int IntKind.i64 (List.getD path i (0 : Int))]) i = (fun i => [SV.int IntKind.i64 (List.getD path i (0 : Int))]) i, day = day] (by kernel_rfl) (by kernel_rfl) ⟨(by omega), (by rfl), ⟨rfl, fun _ _ => rfl⟩, rfl, ⟨rfl, fun _ _ => rfl⟩, rfl, trivial⟩ (by omega) ?_
  intro k hk
  have hkn := kN_le l reader path day k hk
  refine good_run 7 (obs := []) (by kernel_rfl) trivial ?_
  refine good_cond (decide ((↑k : Int) + (1 : Int) ≤ (3 : Int))) (by kernel_rfl) (fun hc1 => ?_) (fun hc1 => ?_)
  · have hlt : k < 3 := by simp only [decide_eq_true_eq] at hc1; omega
    have hks : kN l reader path day (k + 1) = kN l reader path day k + if (firstP l reader path ((k : Int) + 1) day).2 = true then 2 ^ k else 0 := rfl
    have : k = 0 ∨ k = 1 ∨ k = 2 := by omega
    refine good_run 10 (obs := []) (by kernel_rfl) trivial ?_
    refine good_call (c := True) (by kernel_rfl) (fun _ => SVles.refl _) (fun _ => s31 (l) (reader) (path) ((↑k : Int) + (1 : Int)) (day)) (by kernel_rfl) ?_
    refine good_run 12 (obs := []) (by kernel_rfl) trivial ?_
    refine good_cond ((firstP l reader path ((↑k : Int) + (1 : Int)) day).snd) (by kernel_rfl) (fun hc2 => ?_) (fun hc2 => ?_)
    · rw [if_pos hc2] at hks
      rcases this with rfl | rfl | rfl
      · refine good_run 18 (obs := [InK IntKind.i64 ((0 : Int) + (1 : Int) - (1 : Int)), (1 : Nat) = (1 : Nat) ∧ (0 : Int) ≤ (0 : Int) + (1 : Int) - (1 : Int) ∧ (0 : Int) + (1 : Int) - (1 : Int) < (3 : Int), InK IntKind.i64 (kN l reader path day (0 : Nat) + (1 : Int)), InK IntKind.i64 ((0 : Int) + (1 : Int) + (1 : Int))]) (by kernel_rfl) (by (first | omega | assumption | exact ⟨rfl, trivial⟩ | simp only [AllP, inK_iff, roomOK_iff, decide_eq_true_eq, Bool.and_eq_true, Bool.or_eq_true, Bool.not_eq_true', decide_eq_false_iff_not, and_true, true_and]; (first | omega | (and_intros <;> intros <;> (try and_intros) <;> first | omega | assumption | exact trivial)))) ?_
        refine good_backJ (0 + 1) [(0 : Int) + (1 : Int) + (1 : Int) = (↑((0 : Nat) + (1 : Nat)) : Int) + (1 : Int), kN l reader path day (0 : Nat) + (1 : Int) = kN l reader path day ((0 : Nat) + (1 : Nat)), List.length l = List.length l ∧ ∀ (i : Nat), i < List.length l → (fun i => Permit.cells (List.getD l i default)) i = (fun i => Permit.cells (List.getD l i default)) i, reader = reader, List.length path = List.length path ∧ ∀ (i : Nat), i < List.length path → (fun i => [SV.int IntKind.i64 (List.getD path i (0 : Int))]) i = (fun i => [SV.int IntKind.i64 (List.getD path i (0 : Int))]) i, day = day] (by kernel_rfl) (by kernel_rfl) ⟨(by omega), (by omega), ⟨rfl, fun _ _ => rfl⟩, rfl, ⟨rfl, fun _ _ => rfl⟩, rfl, trivial⟩ (by omega) (by show _ < _; omega)
      · refine good_run 18 (obs := [InK IntKind.i64 ((1 : Int) + (1 : Int) - (1 : Int)), (1 : Nat) = (1 : Nat) ∧ (0 : Int) ≤ (1 : Int) + (1 : Int) - (1 : Int) ∧ (1 : Int) + (1 : Int) - (1 : Int) < (3 : Int), InK IntKind.i64 (kN l reader path day (1 : Nat) + (2 : Int)), InK IntKind.i64 ((1 : Int) + (1 : Int) + (1 : Int))]) (by kernel_rfl) (by (first | omega | assumption | exact ⟨rfl, trivial⟩ | simp only [AllP, inK_iff, roomOK_iff, decide_eq_true_eq, Bool.and_eq_true, Bool.or_eq_true, Bool.not_eq_true', decide_eq_false_iff_not, and_true, true_and]; (first | omega | (and_intros <;> intros <;> (try and_intros) <;> first | omega | assumption | exact trivial)))) ?_
        refine good_backJ (1 + 1) [(1 : Int) + (1 : Int) + (1 : Int) = (↑((1 : Nat) + (1 : Nat)) : Int) + (1 : Int), kN l reader path day (1 : Nat) + (2 : Int) = kN l reader path day ((1 : Nat) + (1 : Nat)), List.length l = List.length l ∧ ∀ (i : Nat), i < List.length l → (fun i => Permit.cells (List.getD l i default)) i = (fun i => Permit.cells (List.getD l i default)) i, reader = reader, List.length path = List.length path ∧ ∀ (i : Nat), i < List.length path → (fun i => [SV.int IntKind.i64 (List.getD path i (0 : Int))]) i = (fun i => [SV.int IntKind.i64 (List.getD path i (0 : Int))]) i, day = day] (by kernel_rfl) (by kernel_rfl) ⟨(by omega), (by omega), ⟨rfl, fun _ _ => rfl⟩, rfl, ⟨rfl, fun _ _ => rfl⟩, rfl, trivial⟩ (by omega) (by show _ < _; omega)
      · refine good_run 18 (obs := [InK IntKind.i64 ((2 : Int) + (1 : Int) - (1 : Int)), (1 : Nat) = (1 : Nat) ∧ (0 : Int) ≤ (2 : Int) + (1 : Int) - (1 : Int) ∧ (2 : Int) + (1 : Int) - (1 : Int) < (3 : Int), InK IntKind.i64 (kN l reader path day (2 : Nat) + (4 : Int)), InK IntKind.i64 ((2 : Int) + (1 : Int) + (1 : Int))]) (by kernel_rfl) (by (first | omega | assumption | exact ⟨rfl, trivial⟩ | simp only [AllP, inK_iff, roomOK_iff, decide_eq_true_eq, Bool.and_eq_true, Bool.or_eq_true, Bool.not_eq_true', decide_eq_false_iff_not, and_true, true_and]; (first | omega | (and_intros <;> intros <;> (try and_intros) <;> first | omega | assumption | exact trivial)))) ?_
        refine good_backJ (2 + 1) [(2 : Int) + (1 : Int) + (1 : Int) = (↑((2 : Nat) + (1 : Nat)) : Int) + (1 : Int), kN l reader path day (2 : Nat) + (4 : Int) = kN l reader path day ((2 : Nat) + (1 : Nat)), List.length l = List.length l ∧ ∀ (i : Nat), i < List.length l → (fun i => Permit.cells (List.getD l i default)) i = (fun i => Permit.cells (List.getD l i default)) i, reader = reader, List.length path = List.length path ∧ ∀ (i : Nat), i < List.length path → (fun i => [SV.int IntKind.i64 (List.getD path i (0 : Int))]) i = (fun i => [SV.int IntKind.i64 (List.getD path i (0 : Int))]) i, day = day] (by kernel_rfl) (by kernel_rfl) ⟨(by omega), (by omega), ⟨rfl, fun _ _ => rfl⟩, rfl, ⟨rfl, fun _ _ => rfl⟩, rfl, trivial⟩ (by omega) (by show _ < _; omega)
    · rw [if_neg (by rw [hc2]; decide)] at hks
      refine good_run 8 (obs := [InK IntKind.i64 ((↑k : Int) + (1 : Int) + (1 : Int))]) (by kernel_rfl) (by (first | omega | assumption | exact ⟨rfl, trivial⟩ | simp only [AllP, inK_iff, roomOK_iff, decide_eq_true_eq, Bool.and_eq_true, Bool.or_eq_true, Bool.not_eq_true', decide_eq_false_iff_not, and_true, true_and]; (first | omega | (and_intros <;> intros <;> (try and_intros) <;> first | omega | assumption | exact trivial)))) ?_
      refine good_backJ (k + 1) [(↑k : Int) + (1 : Int) + (1 : Int) = (↑(k + (1 : Nat)) : Int) + (1 : Int), kN l reader path day k = kN l reader path day (k + (1 : Nat)), List.length l = List.length l ∧ ∀ (i : Nat), i < List.length l → (fun i => Permit.cells (List.getD l i default)) i = (fun i => Permit.cells (List.getD l i default)) i, reader = reader, List.length path = List.length path ∧ ∀ (i : Nat), i < List.length path → (fun i => [SV.int IntKind.i64 (List.getD path i (0 : Int))]) i = (fun i => [SV.int IntKind.i64 (List.getD path i (0 : Int))]) i, day = day] (by kernel_rfl) (by kernel_rfl) ⟨(by omega), (by omega), ⟨rfl, fun _ _ => rfl⟩, rfl, ⟨rfl, fun _ _ => rfl⟩, rfl, trivial⟩ (by omega) (by show _ < _; omega)
  · have hge : k = 3 := by simp only [decide_eq_false_iff_not] at hc1; omega
    subst hge
    refine good_run 2 (obs := []) (by kernel_rfl) trivial ?_
    refine good_leaveJ (by kernel_rfl) ?_
    refine good_run 8 (obs := []) (by kernel_rfl) trivial ?_
    refine good_fin [kN l reader path day (3 : Nat) = kN l reader path day (3 : Nat)] (by kernel_rfl) ⟨rfl, trivial⟩
end Go.Sx.T
