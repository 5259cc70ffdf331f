/- Contracts of functions of the program, each proved by running its code symbolically (QA). -/
import Derived.Test.YtepkgkdbnoiieaaSx4
import Derived.Test.YtepkgkdbnoiieaaQC
namespace Go.Sx.T
open Go Go.Proofs Go.Sx
set_option maxRecDepth 100000
set_option maxHeartbeats 4000000
set_option linter.unusedVariables false
set_option linter.unusedSimpArgs false
structure Shift where
  Number : Int
  Before : Int
  deriving Inhabited, DecidableEq
def Shift.cells (m : Shift) : List SV := [.int .i64 m.Number, .int .i64 m.Before]
def Shift.sv (m : Shift) : SV := .agg m.cells
def shifts (l : List Shift) : SV := .lst 2 l.length fun i => (l.getD i default).cells
def ints (l : List Int) : SV := .lst 1 l.length fun i => [.int .i64 (l.getD i 0)]
def isv (n : Int) : SV := .int .i64 n
theorem eq40 : EqOK Try.prog 40 2 := eqOK_flat 5 (by decide) (by kernel_rfl) ⟨_, Try.underlying40⟩ (by kernel_rfl)
theorem shift_ints (p q : Shift) : ([p.Number, p.Before] = [q.Number, q.Before]) ↔ p = q := by
  constructor
  · intro h
    simp only [List.cons.injEq, and_true] at h
    cases p; cases q; simp_all
  · intro h; rw [h]
theorem s14 (n : Nat) (get : Nat → List SV) (h : n ≤ 100000) : SpecOwn Try.prog 14 [.lst 1 n get] 3 1 n get := by
  refine specOwn_of_good mixed Try.func14 F14_ok (by kernel_rfl) ?_
  refine good_run 9 (obs := []) (by kernel_rfl) trivial ?_
  refine good_nil (n) (by kernel_rfl) (fun hc1b hc1 => ?_)
  refine good_run 2 (obs := []) (by kernel_rfl) trivial ?_
  refine good_cond (false ^^ hc1b) (by kernel_rfl) (fun hc2 => ?_) (fun hc2 => ?_)
  · cases hc1b <;> simp at hc2
    refine good_run 7 (obs := []) (by kernel_rfl) trivial ?_
    refine good_finOwn [n = (0 : Nat)] (by kernel_rfl) ⟨?_, trivial⟩
    exact hc1 rfl
  · cases hc1b <;> simp at hc2
    refine good_run 10 (obs := [(3 : Nat) = (3 : Nat) ∧ (1 : Nat) = (1 : Nat) ∧ (1 : Nat) = (1 : Nat) ∧ roomOK ((0 : Nat) + n) (8 : Nat)]) (by kernel_rfl) (by (first | omega | assumption | exact ⟨rfl, trivial⟩ | simp only [AllP, inK_iff, roomOK_iff, decide_eq_true_eq, Bool.and_eq_true, Bool.or_eq_true, Bool.not_eq_true', decide_eq_false_iff_not, and_true, true_and]; (first | omega | (and_intros <;> intros <;> (try and_intros) <;> first | omega | assumption | exact trivial)))) ?_
    refine good_finOwn [(0 : Nat) + n = n ∧ ∀ (j : Nat), j < n → joinGet (0 : Nat) (cutRows (1 : Nat) []) get j = get j] (by kernel_rfl) ⟨?_, trivial⟩
    exact ⟨by omega, fun j _ => rfl⟩
theorem s39 (a b : List Shift) : Spec Try.prog 39 [shifts a, shifts b] (.bool (decide (a = b))) := by
  refine spec_len 0 rfl (hasBody_of_slim Try.func39 F39_ok) fun hlen => ?_
  refine spec_of_good mixed Try.func39 F39_ok (by kernel_rfl) ?_
  have heq := eq40
  refine good_run 15 (obs := []) (by kernel_rfl) trivial ?_
  refine good_cond (!decide ((↑(List.length a) : Int) = (↑(List.length b) : Int))) (by kernel_rfl) (fun hc1 => ?_) (fun hc1 => ?_)
  · simp only [Bool.not_eq_true', decide_eq_false_iff_not] at hc1
    have : decide (a = b) = false := decide_eq_false fun e => hc1 (by rw [e])
    rw [this]
    refine good_run 7 (obs := []) (by kernel_rfl) trivial ?_
    refine good_fin [false = false] (by kernel_rfl) ⟨rfl, trivial⟩
  · simp only [Bool.not_eq_false', decide_eq_true_eq] at hc1
    have hab : a.length = b.length := by omega
    refine good_run 10 (obs := []) (by kernel_rfl) trivial ?_
    refine good_loopJ (fun k : Nat => ⟨[(13, .sv (.int .i64 (k))), (12, LV.sv (SV.int IntKind.i64 (↑(List.length a) : Int))), (0, LV.sv (SV.lst (2 : Nat) (List.length a) fun i => Shift.cells (List.getD a i default))), (1, LV.sv (SV.lst (2 : Nat) (List.length b) fun i => Shift.cells (List.getD b i default)))], []⟩) (fun k => k ≤ a.length ∧ ∀ i, i < k → a.getD i default = b.getD i default) (fun k => a.length - k) (0) [(0 : Int) = (0 : Int), (↑(List.length a) : Int) = (↑(List.length a) : Int), List.length a = List.length a ∧ ∀ (i : Nat), i < List.length a → (fun i => Shift.cells (List.getD a i default)) i = (fun i => Shift.cells (List.getD a i default)) i, List.length b = List.length b ∧ ∀ (i : Nat), i < List.length b → (fun i => Shift.cells (List.getD b i default)) i = (fun i => Shift.cells (List.getD b i default)) i] (by kernel_rfl) (by kernel_rfl) ⟨rfl, rfl, ⟨rfl, fun _ _ => rfl⟩, ⟨rfl, fun _ _ => rfl⟩, trivial⟩ ⟨by omega, by omega⟩ ?_
    intro k hk
    refine good_run 6 (obs := []) (by kernel_rfl) trivial ?_
    refine good_cond (decide ((↑k : Int) < (↑(List.length a) : Int))) (by kernel_rfl) (fun hc2 => ?_) (fun hc2 => ?_)
    · have hlt : k < a.length := by simp only [decide_eq_true_eq] at hc2; omega
      refine good_run 22 (obs := [True → (2 : Nat) = (2 : Nat) ∧ (0 : Int) ≤ (↑k : Int) ∧ (↑k : Int) < (↑(List.length a) : Int), True → (0 : Nat) + (2 : Nat) ≤ (2 : Nat), True → (2 : Nat) = (2 : Nat) ∧ (0 : Int) ≤ (↑k : Int) ∧ (↑k : Int) < (↑(List.length b) : Int), True → (0 : Nat) + (2 : Nat) ≤ (2 : Nat), True → EqOK Try.prog (40 : TypeId) (2 : Nat) ∧ (2 : Nat) = (2 : Nat)]) (by kernel_rfl) (by (first | omega | assumption | exact ⟨rfl, trivial⟩ | simp only [AllP, inK_iff, roomOK_iff, decide_eq_true_eq, Bool.and_eq_true, Bool.or_eq_true, Bool.not_eq_true', decide_eq_false_iff_not, and_true, true_and]; (first | omega | (and_intros <;> intros <;> (try and_intros) <;> first | omega | assumption | exact trivial)))) ?_
      refine good_cond (true ^^ decide ([(List.getD a k default).Number, (List.getD a k default).Before] = [(List.getD b k default).Number, (List.getD b k default).Before])) (by kernel_rfl) (fun hc3 => ?_) (fun hc3 => ?_)
      · have hne : a.getD k default ≠ b.getD k default := fun e => by rw [e] at hc3; simp at hc3
        have : decide (a = b) = false := decide_eq_false fun e => hne (by rw [e])
        rw [this]
        refine good_run 8 (obs := []) (by kernel_rfl) trivial ?_
        refine good_leaveJ (by kernel_rfl) ?_
        refine good_run 2 (obs := []) (by kernel_rfl) trivial ?_
        refine good_fin [false = false] (by kernel_rfl) ⟨rfl, trivial⟩
      · have he : a.getD k default = b.getD k default := by
          refine (shift_ints _ _).1 ?_
          simpa using hc3
        refine good_run 7 (obs := [InK IntKind.i64 ((↑k : Int) + (1 : Int))]) (by kernel_rfl) (by (first | omega | assumption | exact ⟨rfl, trivial⟩ | simp only [AllP, inK_iff, roomOK_iff, decide_eq_true_eq, Bool.and_eq_true, Bool.or_eq_true, Bool.not_eq_true', decide_eq_false_iff_not, and_true, true_and]; (first | omega | (and_intros <;> intros <;> (try and_intros) <;> first | omega | assumption | exact trivial)))) ?_
        refine good_backJ (k + 1) [(↑k : Int) + (1 : Int) = (↑(k + (1 : Nat)) : Int), (↑(List.length a) : Int) = (↑(List.length a) : Int), List.length a = List.length a ∧ ∀ (i : Nat), i < List.length a → (fun i => Shift.cells (List.getD a i default)) i = (fun i => Shift.cells (List.getD a i default)) i, List.length b = List.length b ∧ ∀ (i : Nat), i < List.length b → (fun i => Shift.cells (List.getD b i default)) i = (fun i => Shift.cells (List.getD b i default)) i] (by kernel_rfl) (by kernel_rfl) ⟨(by omega), rfl, ⟨rfl, fun _ _ => rfl⟩, ⟨rfl, fun _ _ => rfl⟩, trivial⟩ ?_ (by show _ < _; omega)
        exact ⟨hlt, fun i hi => by
          rcases Nat.lt_or_ge i k with h | h
          · exact hk.2 i h
          · have : i = k := by omega
            subst this; exact he⟩
    · have hge : k = a.length := by simp only [decide_eq_false_iff_not] at hc2; have := hk.1; omega
      have : decide (a = b) = true := decide_eq_true (ext_getD a b hab fun i hi => hk.2 i (by omega))
      rw [this]
      refine good_run 2 (obs := []) (by kernel_rfl) trivial ?_
      refine good_leaveJ (by kernel_rfl) ?_
      refine good_run 7 (obs := []) (by kernel_rfl) trivial ?_
      refine good_fin [true = true] (by kernel_rfl) ⟨rfl, trivial⟩
theorem s22 (a b : List Int) : Spec Try.prog 22 [ints a, ints b] (.bool (decide (a = b))) := by
  refine spec_len 0 rfl (hasBody_of_slim Try.func22 F22_ok) fun hlen => ?_
  refine spec_of_good mixed Try.func22 F22_ok (by kernel_rfl) ?_
  refine good_run 15 (obs := []) (by kernel_rfl) trivial ?_
  refine good_cond (!decide ((↑(List.length a) : Int) = (↑(List.length b) : Int))) (by kernel_rfl) (fun hc1 => ?_) (fun hc1 => ?_)
  · simp only [Bool.not_eq_true', decide_eq_false_iff_not] at hc1
    have : decide (a = b) = false := decide_eq_false fun e => hc1 (by rw [e])
    rw [this]
    refine good_run 7 (obs := []) (by kernel_rfl) trivial ?_
    refine good_fin [false = false] (by kernel_rfl) ⟨rfl, trivial⟩
  · simp only [Bool.not_eq_false', decide_eq_true_eq] at hc1
    have hab : a.length = b.length := by omega
    refine good_run 10 (obs := []) (by kernel_rfl) trivial ?_
    refine good_loopJ (fun k : Nat => ⟨[(13, .sv (.int .i64 (k))), (12, LV.sv (SV.int IntKind.i64 (↑(List.length a) : Int))), (0, LV.sv (SV.lst (1 : Nat) (List.length a) fun i => [SV.int IntKind.i64 (List.getD a i (0 : Int))])), (1, LV.sv (SV.lst (1 : Nat) (List.length b) fun i => [SV.int IntKind.i64 (List.getD b i (0 : Int))]))], []⟩) (fun k => k ≤ a.length ∧ ∀ i, i < k → a.getD i 0 = b.getD i 0) (fun k => a.length - k) (0) [(0 : Int) = (0 : Int), (↑(List.length a) : Int) = (↑(List.length a) : Int), List.length a = List.length a ∧ ∀ (i : Nat), i < List.length a → (fun i => [SV.int IntKind.i64 (List.getD a i (0 : Int))]) i = (fun i => [SV.int IntKind.i64 (List.getD a i (0 : Int))]) i, List.length b = List.length b ∧ ∀ (i : Nat), i < List.length b → (fun i => [SV.int IntKind.i64 (List.getD b i (0 : Int))]) i = (fun i => [SV.int IntKind.i64 (List.getD b i (0 : Int))]) i] (by kernel_rfl) (by kernel_rfl) ⟨rfl, rfl, ⟨rfl, fun _ _ => rfl⟩, ⟨rfl, fun _ _ => rfl⟩, trivial⟩ ⟨by omega, by omega⟩ ?_
    intro k hk
    refine good_run 6 (obs := []) (by kernel_rfl) trivial ?_
    refine good_cond (decide ((↑k : Int) < (↑(List.length a) : Int))) (by kernel_rfl) (fun hc2 => ?_) (fun hc2 => ?_)
    · have hlt : k < a.length := by simp only [decide_eq_true_eq] at hc2; omega
      refine good_run 22 (obs := [True → (1 : Nat) = (1 : Nat) ∧ (0 : Int) ≤ (↑k : Int) ∧ (↑k : Int) < (↑(List.length a) : Int), True → (1 : Nat) = (1 : Nat) ∧ (0 : Int) ≤ (↑k : Int) ∧ (↑k : Int) < (↑(List.length b) : Int)]) (by kernel_rfl) (by (first | omega | assumption | exact ⟨rfl, trivial⟩ | simp only [AllP, inK_iff, roomOK_iff, decide_eq_true_eq, Bool.and_eq_true, Bool.or_eq_true, Bool.not_eq_true', decide_eq_false_iff_not, and_true, true_and]; (first | omega | (and_intros <;> intros <;> (try and_intros) <;> first | omega | assumption | exact trivial)))) ?_
      refine good_cond (!decide (List.getD a k (0 : Int) = List.getD b k (0 : Int))) (by kernel_rfl) (fun hc3 => ?_) (fun hc3 => ?_)
      · have hne : a.getD k 0 ≠ b.getD k 0 := by simpa only [Bool.not_eq_true', decide_eq_false_iff_not] using hc3
        have : decide (a = b) = false := decide_eq_false fun e => hne (by rw [e])
        rw [this]
        refine good_run 8 (obs := []) (by kernel_rfl) trivial ?_
        refine good_leaveJ (by kernel_rfl) ?_
        refine good_run 2 (obs := []) (by kernel_rfl) trivial ?_
        refine good_fin [false = false] (by kernel_rfl) ⟨rfl, trivial⟩
      · have he : a.getD k 0 = b.getD k 0 := by simpa only [Bool.not_eq_false', decide_eq_true_eq] using hc3
        refine good_run 7 (obs := [InK IntKind.i64 ((↑k : Int) + (1 : Int))]) (by kernel_rfl) (by (first | omega | assumption | exact ⟨rfl, trivial⟩ | simp only [AllP, inK_iff, roomOK_iff, decide_eq_true_eq, Bool.and_eq_true, Bool.or_eq_true, Bool.not_eq_true', decide_eq_false_iff_not, and_true, true_and]; (first | omega | (and_intros <;> intros <;> (try and_intros) <;> first | omega | assumption | exact trivial)))) ?_
        refine good_backJ (k + 1) [(↑k : Int) + (1 : Int) = (↑(k + (1 : Nat)) : Int), (↑(List.length a) : Int) = (↑(List.length a) : Int), List.length a = List.length a ∧ ∀ (i : Nat), i < List.length a → (fun i => [SV.int IntKind.i64 (List.getD a i (0 : Int))]) i = (fun i => [SV.int IntKind.i64 (List.getD a i (0 : Int))]) i, List.length b = List.length b ∧ ∀ (i : Nat), i < List.length b → (fun i => [SV.int IntKind.i64 (List.getD b i (0 : Int))]) i = (fun i => [SV.int IntKind.i64 (List.getD b i (0 : Int))]) i] (by kernel_rfl) (by kernel_rfl) ⟨(by omega), rfl, ⟨rfl, fun _ _ => rfl⟩, ⟨rfl, fun _ _ => rfl⟩, trivial⟩ ?_ (by show _ < _; omega)
        exact ⟨hlt, fun i hi => by
          rcases Nat.lt_or_ge i k with h | h
          · exact hk.2 i h
          · have : i = k := by omega
            subst this; exact he⟩
    · have hge : k = a.length := by simp only [decide_eq_false_iff_not] at hc2; have := hk.1; omega
      have : decide (a = b) = true := decide_eq_true (ext_getD a b hab fun i hi => hk.2 i (by omega))
      rw [this]
      refine good_run 2 (obs := []) (by kernel_rfl) trivial ?_
      refine good_leaveJ (by kernel_rfl) ?_
      refine good_run 7 (obs := []) (by kernel_rfl) trivial ?_
      refine good_fin [true = true] (by kernel_rfl) ⟨rfl, trivial⟩
theorem ov63 : OvlOK Try.prog 63 22 := ⟨Try.f63, 4, 3, 1, Try.func63, by kernel_rfl, by kernel_rfl, by kernel_rfl, by kernel_rfl, by kernel_rfl, by kernel_rfl⟩
theorem s47 (n : Nat) (get gv : Nat → List SV) (i : Int) (h0 : 0 ≤ i) (h1 : i ≤ n) (hn : n ≤ 100000) : SpecTake Try.prog 47 [] 3 1 n get [.int .i64 i, .lst 1 1 gv] (n + 1) (insGet i.toNat (gv 0) get) := by
  refine specTake_of_good mixed Try.func47 F47_ok (by kernel_rfl) ?_
  have hov := ov63
  refine good_run 26 (obs := [(1 : Nat) = (1 : Nat) ∧ (0 : Int) ≤ i ∧ i ≤ (↑(n - (0 : Nat)) : Int) ∧ (0 : Nat) + (n - (0 : Nat)) ≤ n]) (by kernel_rfl) (by (first | omega | assumption | exact ⟨rfl, trivial⟩ | simp only [AllP, inK_iff, roomOK_iff, decide_eq_true_eq, Bool.and_eq_true, Bool.or_eq_true, Bool.not_eq_true', decide_eq_false_iff_not, and_true, true_and]; (first | omega | (and_intros <;> intros <;> (try and_intros) <;> first | omega | assumption | exact trivial)))) ?_
  refine good_cond false (by kernel_rfl) (fun h => nomatch h) (fun _ => ?_)
  refine good_run 16 (obs := []) (by kernel_rfl) trivial ?_
  refine good_cond (decide (i = (↑n : Int))) (by kernel_rfl) (fun hc1 => ?_) (fun hc1 => ?_)
  · simp only [decide_eq_true_eq] at hc1
    refine good_run 10 (obs := [(3 : Nat) = (3 : Nat) ∧ (1 : Nat) = (1 : Nat) ∧ (1 : Nat) = (1 : Nat) ∧ roomOK (n + (1 : Nat)) (8 : Nat)]) (by kernel_rfl) (by (first | omega | assumption | exact ⟨rfl, trivial⟩ | simp only [AllP, inK_iff, roomOK_iff, decide_eq_true_eq, Bool.and_eq_true, Bool.or_eq_true, Bool.not_eq_true', decide_eq_false_iff_not, and_true, true_and]; (first | omega | (and_intros <;> intros <;> (try and_intros) <;> first | omega | assumption | exact trivial)))) ?_
    refine good_finTake [n + (1 : Nat) = n + (1 : Nat) ∧ ∀ (j : Nat), j < n + (1 : Nat) → joinGet n get gv j = insGet (Int.toNat i) (gv (0 : Nat)) get j] (by kernel_rfl) ⟨?_, trivial⟩
    refine ⟨rfl, fun k hk => ?_⟩
    unfold joinGet insGet
    subst hc1
    simp only [Int.toNat_natCast]
    split
    · rfl
    · have : k = n := by omega
      subst this; simp
  · simp only [decide_eq_false_iff_not] at hc1
    refine good_run 8 (obs := [InK IntKind.i64 ((↑n : Int) + (1 : Int))]) (by kernel_rfl) (by (first | omega | assumption | exact ⟨rfl, trivial⟩ | simp only [AllP, inK_iff, roomOK_iff, decide_eq_true_eq, Bool.and_eq_true, Bool.or_eq_true, Bool.not_eq_true', decide_eq_false_iff_not, and_true, true_and]; (first | omega | (and_intros <;> intros <;> (try and_intros) <;> first | omega | assumption | exact trivial)))) ?_
    refine good_cap (i := (0 : Nat)) (t := (3 : Nat)) (sz := (1 : Nat)) (n := n) (get := get) (by kernel_rfl) (fun hc2c hc2g hc2 hc2m hc2e => ?_)
    refine good_run 3 (obs := []) (by kernel_rfl) trivial ?_
    refine good_cond (decide ((↑hc2c : Int) < (↑n : Int) + (1 : Int))) (by kernel_rfl) (fun hc3 => ?_) (fun hc3 => ?_)
    · simp only [decide_eq_true_eq] at hc3
      refine good_run 45 (obs := [(1 : Nat) = (1 : Nat) ∧ (0 : Int) ≤ (0 : Int) ∧ (0 : Int) ≤ i ∧ (0 : Nat) + Int.toNat i ≤ hc2c, InK IntKind.i64 ((↑n : Int) + (1 : Int)), InK IntKind.i64 ((↑n : Int) + (1 : Int) - i), (3 : Nat) = (3 : Nat) ∧ (1 : Nat) = (1 : Nat) ∧ (0 : Int) < (↑n : Int) + (1 : Int) - i ∧ hc2c < (0 : Nat) + Int.toNat i + Int.toNat ((↑n : Int) + (1 : Int) - i) ∧ roomOK ((0 : Nat) + Int.toNat i + Int.toNat ((↑n : Int) + (1 : Int) - i)) (8 : Nat), (1 : Nat) = (1 : Nat) ∧ (0 : Int) ≤ i ∧ i ≤ (↑((0 : Nat) + Int.toNat i + Int.toNat ((↑n : Int) + (1 : Int) - i) - (0 : Nat)) : Int) ∧ (0 : Nat) + ((0 : Nat) + Int.toNat i + Int.toNat ((↑n : Int) + (1 : Int) - i) - (0 : Nat)) ≤ (0 : Nat) + Int.toNat i + Int.toNat ((↑n : Int) + (1 : Int) - i), (1 : Nat) = (1 : Nat) ∧ (1 : Nat) = (1 : Nat), True → InK IntKind.i64 (i + (1 : Int)), True → (1 : Nat) = (1 : Nat) ∧ (0 : Int) ≤ i + (1 : Int) ∧ i + (1 : Int) ≤ (↑((0 : Nat) + Int.toNat i + Int.toNat ((↑n : Int) + (1 : Int) - i) - (0 : Nat)) : Int) ∧ (0 : Nat) + ((0 : Nat) + Int.toNat i + Int.toNat ((↑n : Int) + (1 : Int) - i) - (0 : Nat)) ≤ (0 : Nat) + Int.toNat i + Int.toNat ((↑n : Int) + (1 : Int) - i), True → (1 : Nat) = (1 : Nat) ∧ (0 : Int) ≤ i ∧ i ≤ (↑(n - (0 : Nat)) : Int) ∧ (0 : Nat) + (n - (0 : Nat)) ≤ hc2c, (1 : Nat) = (1 : Nat) ∧ (1 : Nat) = (1 : Nat)]) (by kernel_rfl) (by (first | omega | assumption | exact ⟨rfl, trivial⟩ | simp only [AllP, inK_iff, roomOK_iff, decide_eq_true_eq, Bool.and_eq_true, Bool.or_eq_true, Bool.not_eq_true', decide_eq_false_iff_not, and_true, true_and]; (first | omega | (and_intros <;> intros <;> (try and_intros) <;> first | omega | assumption | exact trivial)))) ?_
      refine good_finTake [(0 : Nat) + Int.toNat i + Int.toNat ((↑n : Int) + (1 : Int) - i) = n + (1 : Nat) ∧ ∀ (j : Nat), j < n + (1 : Nat) → spliceGet ((0 : Nat) + Int.toNat (i + (1 : Int))) (min ((0 : Nat) + (n - (0 : Nat)) - ((0 : Nat) + Int.toNat i)) ((0 : Nat) + ((0 : Nat) + Int.toNat i + Int.toNat ((↑n : Int) + (1 : Int) - i) - (0 : Nat)) - ((0 : Nat) + Int.toNat (i + (1 : Int))))) (fun k => hc2g ((0 : Nat) + Int.toNat i + k)) (spliceGet ((0 : Nat) + Int.toNat i) (min (1 : Nat) ((0 : Nat) + ((0 : Nat) + Int.toNat i + Int.toNat ((↑n : Int) + (1 : Int) - i) - (0 : Nat)) - ((0 : Nat) + Int.toNat i))) gv (joinGet ((0 : Nat) + Int.toNat i) hc2g fun x => List.map SV.val [Value.int IntKind.i64 (Int.ofNat (0 : Nat))])) j = insGet (Int.toNat i) (gv (0 : Nat)) get j] (by kernel_rfl) ⟨?_, trivial⟩
      exact ⟨by omega, fun j hj => ins_new (n := n) (by omega) (by omega) (by omega) (by omega) (by omega) (by omega) (by omega) hc2e hj⟩
    · simp only [decide_eq_false_iff_not] at hc3
      refine good_run 24 (obs := [InK IntKind.i64 ((↑n : Int) + (1 : Int)), (1 : Nat) = (1 : Nat) ∧ (0 : Int) ≤ (0 : Int) ∧ (0 : Int) ≤ (↑n : Int) + (1 : Int) ∧ (0 : Nat) + Int.toNat ((↑n : Int) + (1 : Int)) ≤ hc2c, InK IntKind.i64 (i + (1 : Int)), (1 : Nat) = (1 : Nat) ∧ (0 : Int) ≤ i + (1 : Int) ∧ i + (1 : Int) ≤ (↑((0 : Nat) + Int.toNat ((↑n : Int) + (1 : Int)) - (0 : Nat)) : Int) ∧ (0 : Nat) + ((0 : Nat) + Int.toNat ((↑n : Int) + (1 : Int)) - (0 : Nat)) ≤ hc2c, OvlOK Try.prog (63 : FuncId) (22 : TypeId) ∧ (0 : Nat) < (1 : Nat)]) (by kernel_rfl) (by (first | omega | assumption | exact ⟨rfl, trivial⟩ | simp only [AllP, inK_iff, roomOK_iff, decide_eq_true_eq, Bool.and_eq_true, Bool.or_eq_true, Bool.not_eq_true', decide_eq_false_iff_not, and_true, true_and]; (first | omega | (and_intros <;> intros <;> (try and_intros) <;> first | omega | assumption | exact trivial)))) ?_
      refine good_cond true (by kernel_rfl) (fun _ => ?_) (fun h => nomatch h)
      refine good_run 31 (obs := [True → InK IntKind.i64 (i + (1 : Int)), True → (1 : Nat) = (1 : Nat) ∧ (0 : Int) ≤ i + (1 : Int) ∧ i + (1 : Int) ≤ (↑((0 : Nat) + Int.toNat ((↑n : Int) + (1 : Int)) - (0 : Nat)) : Int) ∧ (0 : Nat) + ((0 : Nat) + Int.toNat ((↑n : Int) + (1 : Int)) - (0 : Nat)) ≤ hc2c, True → (1 : Nat) = (1 : Nat) ∧ (0 : Int) ≤ i ∧ i ≤ (↑((0 : Nat) + Int.toNat ((↑n : Int) + (1 : Int)) - (0 : Nat)) : Int) ∧ (0 : Nat) + ((0 : Nat) + Int.toNat ((↑n : Int) + (1 : Int)) - (0 : Nat)) ≤ hc2c, (1 : Nat) = (1 : Nat) ∧ (1 : Nat) = (1 : Nat), (1 : Nat) = (1 : Nat) ∧ (0 : Int) ≤ i ∧ i ≤ (↑((0 : Nat) + Int.toNat ((↑n : Int) + (1 : Int)) - (0 : Nat)) : Int) ∧ (0 : Nat) + ((0 : Nat) + Int.toNat ((↑n : Int) + (1 : Int)) - (0 : Nat)) ≤ hc2c, (1 : Nat) = (1 : Nat) ∧ (1 : Nat) = (1 : Nat)]) (by kernel_rfl) (by (first | omega | assumption | exact ⟨rfl, trivial⟩ | simp only [AllP, inK_iff, roomOK_iff, decide_eq_true_eq, Bool.and_eq_true, Bool.or_eq_true, Bool.not_eq_true', decide_eq_false_iff_not, and_true, true_and]; (first | omega | (and_intros <;> intros <;> (try and_intros) <;> first | omega | assumption | exact trivial)))) ?_
      refine good_finTake [(0 : Nat) + Int.toNat ((↑n : Int) + (1 : Int)) = n + (1 : Nat) ∧ n + (1 : Nat) ≤ hc2c ∧ ∀ (j : Nat), j < n + (1 : Nat) → spliceGet ((0 : Nat) + Int.toNat i) (min (1 : Nat) ((0 : Nat) + ((0 : Nat) + Int.toNat ((↑n : Int) + (1 : Int)) - (0 : Nat)) - ((0 : Nat) + Int.toNat i))) gv (spliceGet ((0 : Nat) + Int.toNat (i + (1 : Int))) (min ((0 : Nat) + ((0 : Nat) + Int.toNat ((↑n : Int) + (1 : Int)) - (0 : Nat)) - ((0 : Nat) + Int.toNat i)) ((0 : Nat) + ((0 : Nat) + Int.toNat ((↑n : Int) + (1 : Int)) - (0 : Nat)) - ((0 : Nat) + Int.toNat (i + (1 : Int))))) (fun k => hc2g ((0 : Nat) + Int.toNat i + k)) hc2g) j = insGet (Int.toNat i) (gv (0 : Nat)) get j] (by kernel_rfl) ⟨?_, trivial⟩
      exact ⟨by omega, by omega, fun j hj => ins_in (n := n) (by omega) (by omega) (by omega) (by omega) (by omega) (by omega) hc2e hj⟩
end Go.Sx.T
