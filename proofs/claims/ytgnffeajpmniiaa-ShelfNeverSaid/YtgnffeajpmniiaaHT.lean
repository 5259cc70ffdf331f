/- Contracts of functions of the program, each proved by running its code symbolically (HT). -/
import Derived.Test.YtgnffeajpmniiaaHS
namespace Go.Sx.T
open Go Go.Proofs Go.Sx
set_option maxRecDepth 100000
set_option maxHeartbeats 4000000
set_option linter.unusedVariables false
set_option linter.unusedSimpArgs false
theorem s32 (a b : List Std) (ha : ∀ y ∈ a, y.Boxes.length ≤ 100000) : Spec Try.prog 32 [stds a, stds b] (.bool (decide (a = b))) := by
  refine spec_len 0 rfl (hasBody_of_slim Try.func32 F32_ok) fun hlen => ?_
  refine spec_of_good mixed Try.func32 F32_ok (by kernel_rfl) ?_
  refine good_run 15 (obs := []) (by kernel_rfl) trivial ?_
  refine good_cond (!decide ((↑(List.length a) : Int) = (↑(List.length b) : Int))) (by kernel_rfl) (fun hc1 => ?_) (fun hc1 => ?_)
  · simp only [Bool.not_eq_true', decide_eq_false_iff_not] at hc1
    have : decide (a = b) = false := decide_eq_false fun e => hc1 (by rw [e])
    rw [this]
    refine good_run 7 (obs := []) (by kernel_rfl) trivial ?_
    refine good_fin [false = false] (by kernel_rfl) ⟨rfl, trivial⟩
  · simp only [Bool.not_eq_false', decide_eq_true_eq] at hc1
    have hl : a.length = b.length := by omega
    refine good_run 10 (obs := []) (by kernel_rfl) trivial ?_
    refine good_loopJ (fun k : Nat => ⟨[(14, .sv (.int .i64 (k))), (13, LV.sv (SV.int IntKind.i64 (↑(List.length a) : Int))), (0, LV.sv (SV.lst (2 : Nat) (List.length a) fun i => Std.cells (List.getD a i default))), (1, LV.sv (SV.lst (2 : Nat) (List.length b) fun i => Std.cells (List.getD b i default)))], []⟩) (fun k => k ≤ a.length ∧ ∀ j, j < k → a.getD j default = b.getD j default) (fun k => a.length - k) (0) [(0 : Int) = (0 : Int), (↑(List.length a) : Int) = (↑(List.length a) : Int), List.length a = List.length a ∧ ∀ (i : Nat), i < List.length a → (fun i => Std.cells (List.getD a i default)) i = (fun i => Std.cells (List.getD a i default)) i, List.length b = List.length b ∧ ∀ (i : Nat), i < List.length b → (fun i => Std.cells (List.getD b i default)) i = (fun i => Std.cells (List.getD b i default)) i] (by kernel_rfl) (by kernel_rfl) ⟨rfl, rfl, ⟨rfl, fun _ _ => rfl⟩, ⟨rfl, fun _ _ => rfl⟩, trivial⟩ ⟨by omega, by omega⟩ ?_
    intro k hk
    refine good_run 6 (obs := []) (by kernel_rfl) trivial ?_
    refine good_cond (decide ((↑k : Int) < (↑(List.length a) : Int))) (by kernel_rfl) (fun hc2 => ?_) (fun hc2 => ?_)
    · have hlt : k < a.length := by simp only [decide_eq_true_eq] at hc2; omega
      have hcl := ha _ (getD_mem a default k hlt)
      refine good_run 40 (obs := [True → (2 : Nat) = (2 : Nat) ∧ (0 : Int) ≤ (↑k : Int) ∧ (↑k : Int) < (↑(List.length a) : Int), True → (2 : Nat) = (2 : Nat) ∧ (0 : Int) ≤ (↑k : Int) ∧ (↑k : Int) < (↑(List.length b) : Int), (!decide ((List.getD a k default).Shelf = (List.getD b k default).Shelf)) = false ∧ True → (2 : Nat) = (2 : Nat) ∧ (0 : Int) ≤ (↑k : Int) ∧ (↑k : Int) < (↑(List.length a) : Int), (!decide ((List.getD a k default).Shelf = (List.getD b k default).Shelf)) = false ∧ True → (2 : Nat) = (2 : Nat) ∧ (0 : Int) ≤ (↑k : Int) ∧ (↑k : Int) < (↑(List.length b) : Int)]) (by kernel_rfl) (by (first | omega | assumption | exact ⟨rfl, trivial⟩ | simp only [AllP, inK_iff, roomOK_iff, decide_eq_true_eq, Bool.and_eq_true, Bool.or_eq_true, Bool.not_eq_true', decide_eq_false_iff_not, and_true, true_and]; (first | omega | (and_intros <;> intros <;> (try and_intros) <;> first | omega | assumption | exact trivial)))) ?_
      refine good_cond (!decide ((List.getD a k default).Shelf = (List.getD b k default).Shelf) || !decide ((↑(List.length (List.getD a k default).Boxes) : Int) = (↑(List.length (List.getD b k default).Boxes) : Int))) (by kernel_rfl) (fun hc3 => ?_) (fun hc3 => ?_)
      · have : decide (a = b) = false := decide_eq_false fun e => by
          subst e
          simp at hc3
        rw [this]
        refine good_run 9 (obs := []) (by kernel_rfl) trivial ?_
        refine good_leaveJ (by kernel_rfl) ?_
        refine good_run 2 (obs := []) (by kernel_rfl) trivial ?_
        refine good_fin [false = false] (by kernel_rfl) ⟨rfl, trivial⟩
      · simp only [Bool.or_eq_false_iff, Bool.not_eq_false', decide_eq_true_eq] at hc3
        obtain ⟨e1, e5⟩ := hc3
        have hcc : (a.getD k default).Boxes.length = (b.getD k default).Boxes.length := by omega
        refine good_run 13 (obs := [(2 : Nat) = (2 : Nat) ∧ (0 : Int) ≤ (↑k : Int) ∧ (↑k : Int) < (↑(List.length a) : Int)]) (by kernel_rfl) (by (first | omega | assumption | exact ⟨rfl, trivial⟩ | simp only [AllP, inK_iff, roomOK_iff, decide_eq_true_eq, Bool.and_eq_true, Bool.or_eq_true, Bool.not_eq_true', decide_eq_false_iff_not, and_true, true_and]; (first | omega | (and_intros <;> intros <;> (try and_intros) <;> first | omega | assumption | exact trivial)))) ?_
        refine good_loopJ (fun j : Nat => ⟨[(49, .sv (.int .i64 (j))), (48, LV.sv (SV.int IntKind.i64 (↑(List.length (List.getD a k default).Boxes) : Int))), (5, LV.sv (SV.int IntKind.i64 (↑k : Int))), (14, LV.sv (SV.int IntKind.i64 (↑k : Int))), (13, LV.sv (SV.int IntKind.i64 (↑(List.length a) : Int))), (0, LV.sv (SV.lst (2 : Nat) (List.length a) fun i => Std.cells (List.getD a i default))), (1, LV.sv (SV.lst (2 : Nat) (List.length b) fun i => Std.cells (List.getD b i default)))], []⟩) (fun j => j ≤ (a.getD k default).Boxes.length ∧ ∀ i, i < j → (a.getD k default).Boxes.getD i 0 = (b.getD k default).Boxes.getD i 0) (fun j => (a.getD k default).Boxes.length - j) (0) [(0 : Int) = (0 : Int), (↑(List.length (List.getD a k default).Boxes) : Int) = (↑(List.length (List.getD a k default).Boxes) : Int), (↑k : Int) = (↑k : Int), (↑k : Int) = (↑k : Int), (↑(List.length a) : Int) = (↑(List.length a) : Int), List.length a = List.length a ∧ ∀ (i : Nat), i < List.length a → (fun i => Std.cells (List.getD a i default)) i = (fun i => Std.cells (List.getD a i default)) i, List.length b = List.length b ∧ ∀ (i : Nat), i < List.length b → (fun i => Std.cells (List.getD b i default)) i = (fun i => Std.cells (List.getD b i default)) i] (by kernel_rfl) (by kernel_rfl) ⟨rfl, rfl, rfl, rfl, rfl, ⟨rfl, fun _ _ => rfl⟩, ⟨rfl, fun _ _ => rfl⟩, trivial⟩ ⟨by omega, by omega⟩ ?_
        intro j hj
        refine good_run 6 (obs := []) (by kernel_rfl) trivial ?_
        refine good_cond (decide ((↑j : Int) < (↑(List.length (List.getD a k default).Boxes) : Int))) (by kernel_rfl) (fun hc3 => ?_) (fun hc3 => ?_)
        · have hjt : j < (a.getD k default).Boxes.length := by simp only [decide_eq_true_eq] at hc3; omega
          refine good_run 30 (obs := [True → (2 : Nat) = (2 : Nat) ∧ (0 : Int) ≤ (↑k : Int) ∧ (↑k : Int) < (↑(List.length a) : Int), True → (1 : Nat) = (1 : Nat) ∧ (0 : Int) ≤ (↑j : Int) ∧ (↑j : Int) < (↑(List.length (List.getD a k default).Boxes) : Int), True → (2 : Nat) = (2 : Nat) ∧ (0 : Int) ≤ (↑k : Int) ∧ (↑k : Int) < (↑(List.length b) : Int), True → (1 : Nat) = (1 : Nat) ∧ (0 : Int) ≤ (↑j : Int) ∧ (↑j : Int) < (↑(List.length (List.getD b k default).Boxes) : Int)]) (by kernel_rfl) (by (first | omega | assumption | exact ⟨rfl, trivial⟩ | simp only [AllP, inK_iff, roomOK_iff, decide_eq_true_eq, Bool.and_eq_true, Bool.or_eq_true, Bool.not_eq_true', decide_eq_false_iff_not, and_true, true_and]; (first | omega | (and_intros <;> intros <;> (try and_intros) <;> first | omega | assumption | exact trivial)))) ?_
          refine good_cond (!decide (List.getD (List.getD a k default).Boxes j (0 : Int) = List.getD (List.getD b k default).Boxes j (0 : Int))) (by kernel_rfl) (fun hc4 => ?_) (fun hc4 => ?_)
          · have : decide (a = b) = false := decide_eq_false fun e => by
              subst e
              simp at hc4
            rw [this]
            refine good_run 8 (obs := []) (by kernel_rfl) trivial ?_
            refine good_leaveJ (by kernel_rfl) ?_
            refine good_run 3 (obs := []) (by kernel_rfl) trivial ?_
            refine good_leaveJ (by kernel_rfl) ?_
            refine good_run 2 (obs := []) (by kernel_rfl) trivial ?_
            refine good_fin [false = false] (by kernel_rfl) ⟨rfl, trivial⟩
          · simp only [Bool.not_eq_false', decide_eq_true_eq] at hc4
            refine good_run 7 (obs := [InK IntKind.i64 ((↑j : Int) + (1 : Int))]) (by kernel_rfl) (by (first | omega | assumption | exact ⟨rfl, trivial⟩ | simp only [AllP, inK_iff, roomOK_iff, decide_eq_true_eq, Bool.and_eq_true, Bool.or_eq_true, Bool.not_eq_true', decide_eq_false_iff_not, and_true, true_and]; (first | omega | (and_intros <;> intros <;> (try and_intros) <;> first | omega | assumption | exact trivial)))) ?_
            refine good_backJ (j + 1) [(↑j : Int) + (1 : Int) = (↑(j + (1 : Nat)) : Int), (↑(List.length (List.getD a k default).Boxes) : Int) = (↑(List.length (List.getD a k default).Boxes) : Int), (↑k : Int) = (↑k : Int), (↑k : Int) = (↑k : Int), (↑(List.length a) : Int) = (↑(List.length a) : Int), List.length a = List.length a ∧ ∀ (i : Nat), i < List.length a → (fun i => Std.cells (List.getD a i default)) i = (fun i => Std.cells (List.getD a i default)) i, List.length b = List.length b ∧ ∀ (i : Nat), i < List.length b → (fun i => Std.cells (List.getD b i default)) i = (fun i => Std.cells (List.getD b i default)) i] (by kernel_rfl) (by kernel_rfl) ⟨(by omega), rfl, rfl, rfl, rfl, ⟨rfl, fun _ _ => rfl⟩, ⟨rfl, fun _ _ => rfl⟩, trivial⟩ ?_ (by show _ < _; omega)
            refine ⟨by omega, fun i hi => ?_⟩
            rcases Nat.lt_or_ge i j with h | h
            · exact hj.2 i h
            · have : i = j := by omega
              subst this; exact hc4
        · have hjt : j = (a.getD k default).Boxes.length := by simp only [decide_eq_false_iff_not] at hc3; omega
          have hf := ext_getD (d := 0) _ _ hcc (fun i hi => hj.2 i (by omega))
          refine good_run 2 (obs := []) (by kernel_rfl) trivial ?_
          refine good_leaveJ (by kernel_rfl) ?_
          refine good_run 7 (obs := [InK IntKind.i64 ((↑k : Int) + (1 : Int))]) (by kernel_rfl) (by (first | omega | assumption | exact ⟨rfl, trivial⟩ | simp only [AllP, inK_iff, roomOK_iff, decide_eq_true_eq, Bool.and_eq_true, Bool.or_eq_true, Bool.not_eq_true', decide_eq_false_iff_not, and_true, true_and]; (first | omega | (and_intros <;> intros <;> (try and_intros) <;> first | omega | assumption | exact trivial)))) ?_
          refine good_backJ (k + 1) [(↑k : Int) + (1 : Int) = (↑(k + (1 : Nat)) : Int), (↑(List.length a) : Int) = (↑(List.length a) : Int), List.length a = List.length a ∧ ∀ (i : Nat), i < List.length a → (fun i => Std.cells (List.getD a i default)) i = (fun i => Std.cells (List.getD a i default)) i, List.length b = List.length b ∧ ∀ (i : Nat), i < List.length b → (fun i => Std.cells (List.getD b i default)) i = (fun i => Std.cells (List.getD b i default)) i] (by kernel_rfl) (by kernel_rfl) ⟨(by omega), rfl, ⟨rfl, fun _ _ => rfl⟩, ⟨rfl, fun _ _ => rfl⟩, trivial⟩ ?_ (by show _ < _; omega)
          refine ⟨by omega, fun i hi => ?_⟩
          rcases Nat.lt_or_ge i k with h | h
          · exact hk.2 i h
          · have : i = k := by omega
            subst this
            cases h1 : a.getD i default; cases h2 : b.getD i default
            rw [h1, h2] at e1 hf
            simp_all
    · have hkl : k = a.length := by simp only [decide_eq_false_iff_not] at hc2; omega
      subst hkl
      have : decide (a = b) = true := decide_eq_true (ext_getD a b hl hk.2)
      rw [this]
      refine good_run 2 (obs := []) (by kernel_rfl) trivial ?_
      refine good_leaveJ (by kernel_rfl) ?_
      refine good_run 7 (obs := []) (by kernel_rfl) trivial ?_
      refine good_fin [true = true] (by kernel_rfl) ⟨rfl, trivial⟩
def fewL (l : List Shf) (b : List Box) (s : List Std) : Bool := s.all (fun y => decide (y.Boxes.length ≤ 30)) && (decide (l.length ≤ 20) && fewB b && decide (s.length ≤ 30))
theorem fewL_spec {l : List Shf} {b : List Box} {s : List Std} (h : fewL l b s = true) : l.length ≤ 20 ∧ b.length ≤ 20 ∧ (∀ x ∈ b, x.Contents.length ≤ 40) ∧ s.length ≤ 30 ∧ ∀ y ∈ s, y.Boxes.length ≤ 30 := by
  simp only [fewL, Bool.and_eq_true, decide_eq_true_eq, List.all_eq_true] at h
  obtain ⟨h1, ⟨h2, h3⟩, h4⟩ := h
  exact ⟨h2, (fewB_spec h3).1, (fewB_spec h3).2, h4, h1⟩
theorem s37 (l : List Shf) (b : List Box) (s : List Std) : Spec Try.prog 37 [shfs l, boxes b, stds s] (.bool (fewL l b s)) := by
  refine spec_len 2 rfl (hasBody_of_slim Try.func37 F37_ok) fun hlen => ?_
  refine spec_of_good mixed Try.func37 F37_ok (by kernel_rfl) ?_
  refine good_run 14 (obs := []) (by kernel_rfl) trivial ?_
  refine good_loopJ (fun k : Nat => ⟨[(11, .sv (.int .i64 (k))), (10, LV.sv (SV.int IntKind.i64 (↑(List.length s) : Int))), (9, LV.sv (SV.lst (2 : Nat) (List.length s) fun i => Std.cells (List.getD s i default))), (0, LV.sv (SV.lst (4 : Nat) (List.length l) fun i => Shf.cells (List.getD l i default))), (1, LV.sv (SV.lst (5 : Nat) (List.length b) fun i => Box.cells (List.getD b i default))), (2, LV.sv (SV.lst (2 : Nat) (List.length s) fun i => Std.cells (List.getD s i default)))], []⟩) (fun k => k ≤ s.length ∧ ∀ j, j < k → (s.getD j default).Boxes.length ≤ 30) (fun k => s.length - k) (0) [(0 : Int) = (0 : Int), (↑(List.length s) : Int) = (↑(List.length s) : Int), List.length s = List.length s ∧ ∀ (i : Nat), i < List.length s → (fun i => Std.cells (List.getD s i default)) i = (fun i => Std.cells (List.getD s i default)) i, List.length l = List.length l ∧ ∀ (i : Nat), i < List.length l → (fun i => Shf.cells (List.getD l i default)) i = (fun i => Shf.cells (List.getD l i default)) i, List.length b = List.length b ∧ ∀ (i : Nat), i < List.length b → (fun i => Box.cells (List.getD b i default)) i = (fun i => Box.cells (List.getD b i default)) i, List.length s = List.length s ∧ ∀ (i : Nat), i < List.length s → (fun i => Std.cells (List.getD s i default)) i = (fun i => Std.cells (List.getD s i default)) i] (by kernel_rfl) (by kernel_rfl) ⟨rfl, rfl, ⟨rfl, fun _ _ => rfl⟩, ⟨rfl, fun _ _ => rfl⟩, ⟨rfl, fun _ _ => rfl⟩, ⟨rfl, fun _ _ => rfl⟩, trivial⟩ ⟨by omega, by omega⟩ ?_
  intro k hk
  refine good_run 6 (obs := []) (by kernel_rfl) trivial ?_
  refine good_cond (decide ((↑k : Int) < (↑(List.length s) : Int))) (by kernel_rfl) (fun hc1 => ?_) (fun hc1 => ?_)
  · have hlt : k < s.length := by simp only [decide_eq_true_eq] at hc1; omega
    refine good_run 19 (obs := [(2 : Nat) = (2 : Nat) ∧ (0 : Int) ≤ (↑k : Int) ∧ (↑k : Int) < (↑(List.length s) : Int), (0 : Nat) + (2 : Nat) ≤ (2 : Nat), (2 : Nat) = (2 : Nat) ∧ (0 : Nat) + (2 : Nat) ≤ (2 : Nat)]) (by kernel_rfl) (by (first | omega | assumption | exact ⟨rfl, trivial⟩ | simp only [AllP, inK_iff, roomOK_iff, decide_eq_true_eq, Bool.and_eq_true, Bool.or_eq_true, Bool.not_eq_true', decide_eq_false_iff_not, and_true, true_and]; (first | omega | (and_intros <;> intros <;> (try and_intros) <;> first | omega | assumption | exact trivial)))) ?_
    refine good_cond (decide ((30 : Int) < (↑(List.length (List.getD s k default).Boxes) : Int))) (by kernel_rfl) (fun hc2 => ?_) (fun hc2 => ?_)
    · simp only [decide_eq_true_eq] at hc2
      have : fewL l b s = false := by
        rw [fewL, Bool.and_eq_false_iff]
        left
        rw [List.all_eq_false]
        exact ⟨_, getD_mem s default k hlt, by rw [decide_eq_true_eq]; omega⟩
      rw [this]
      refine good_run 8 (obs := []) (by kernel_rfl) trivial ?_
      refine good_leaveJ (by kernel_rfl) ?_
      refine good_run 2 (obs := []) (by kernel_rfl) trivial ?_
      refine good_fin [false = false] (by kernel_rfl) ⟨rfl, trivial⟩
    · simp only [decide_eq_false_iff_not] at hc2
      refine good_run 7 (obs := [InK IntKind.i64 ((↑k : Int) + (1 : Int))]) (by kernel_rfl) (by (first | omega | assumption | exact ⟨rfl, trivial⟩ | simp only [AllP, inK_iff, roomOK_iff, decide_eq_true_eq, Bool.and_eq_true, Bool.or_eq_true, Bool.not_eq_true', decide_eq_false_iff_not, and_true, true_and]; (first | omega | (and_intros <;> intros <;> (try and_intros) <;> first | omega | assumption | exact trivial)))) ?_
      refine good_backJ (k + 1) [(↑k : Int) + (1 : Int) = (↑(k + (1 : Nat)) : Int), (↑(List.length s) : Int) = (↑(List.length s) : Int), List.length s = List.length s ∧ ∀ (i : Nat), i < List.length s → (fun i => Std.cells (List.getD s i default)) i = (fun i => Std.cells (List.getD s i default)) i, List.length l = List.length l ∧ ∀ (i : Nat), i < List.length l → (fun i => Shf.cells (List.getD l i default)) i = (fun i => Shf.cells (List.getD l i default)) i, List.length b = List.length b ∧ ∀ (i : Nat), i < List.length b → (fun i => Box.cells (List.getD b i default)) i = (fun i => Box.cells (List.getD b i default)) i, List.length s = List.length s ∧ ∀ (i : Nat), i < List.length s → (fun i => Std.cells (List.getD s i default)) i = (fun i => Std.cells (List.getD s i default)) i] (by kernel_rfl) (by kernel_rfl) ⟨(by omega), rfl, ⟨rfl, fun _ _ => rfl⟩, ⟨rfl, fun _ _ => rfl⟩, ⟨rfl, fun _ _ => rfl⟩, ⟨rfl, fun _ _ => rfl⟩, trivial⟩ ?_ (by show _ < _; omega)
      refine ⟨by omega, fun j hj => ?_⟩
      rcases Nat.lt_or_ge j k with h | h
      · exact hk.2 j h
      · have : j = k := by omega
        subst this; omega
  · have : k = s.length := by simp only [decide_eq_false_iff_not] at hc1; omega
    subst this
    have h1 : s.all (fun y => decide (y.Boxes.length ≤ 30)) = true := by
      rw [List.all_eq_true]
      intro c hc
      obtain ⟨i, hi, e⟩ := List.mem_iff_getElem.1 hc
      have := hk.2 i hi
      rw [getD_of_lt _ i hi, e] at this
      simpa using this
    have e1 : decide ((l.length : Int) ≤ 20) = decide (l.length ≤ 20) := decide_eq_decide.2 (by omega)
    have e2 : decide ((s.length : Int) ≤ 30) = decide (s.length ≤ 30) := decide_eq_decide.2 (by omega)
    have : fewL l b s = (decide ((l.length : Int) ≤ 20) && fewB b && decide ((s.length : Int) ≤ 30)) := by
      rw [fewL, h1, Bool.true_and, e1, e2]
    rw [this]
    refine good_run 2 (obs := []) (by kernel_rfl) trivial ?_
    refine good_leaveJ (by kernel_rfl) ?_
    refine good_run 9 (obs := []) (by kernel_rfl) trivial ?_
    refine good_call (c := decide ((↑(List.length l) : Int) ≤ (20 : Int)) = true ∧ True) (by kernel_rfl) (fun _ => SVles.refl _) (fun _ => s60 (b)) (by kernel_rfl) ?_
    refine good_run 11 (obs := []) (by kernel_rfl) trivial ?_
    refine good_fin [(decide ((↑(List.length l) : Int) ≤ (20 : Int)) && fewB b && decide ((↑(List.length s) : Int) ≤ (30 : Int))) = (decide ((↑(List.length l) : Int) ≤ (20 : Int)) && fewB b && decide ((↑(List.length s) : Int) ≤ (30 : Int)))] (by kernel_rfl) ⟨rfl, trivial⟩
theorem s11 (l : List Shf) (b : List Box) (s : List Std) : Spec Try.prog 11 [store l b s] (.bool (fewL l b s)) := by
  refine spec_of_good mixed Try.func11 F11_ok (by kernel_rfl) ?_
  refine good_run 14 (obs := []) (by kernel_rfl) trivial ?_
  refine good_call (c := True) (by kernel_rfl) (fun _ => SVles.refl _) (fun _ => s37 (l) (b) (s)) (by kernel_rfl) ?_
  refine good_run 4 (obs := []) (by kernel_rfl) trivial ?_
  refine good_fin [fewL l b s = fewL l b s] (by kernel_rfl) ⟨rfl, trivial⟩
theorem s17 (l : List Shf) (b : List Box) (s : List Std) (hl : l.length ≤ 100000) (hb : b.length ≤ 100000) (hc : ∀ x ∈ b, x.Contents.length ≤ 100000) (hs : s.length ≤ 100000) (hx : ∀ y ∈ s, y.Boxes.length ≤ 100000) :
    Spec Try.prog 17 [store l b s] (.tup [shfs l, boxes b, stds s]) := by
  refine spec_of_good mixed Try.func17 F17_ok (by kernel_rfl) ?_
  have s13a : Spec Try.prog 13 [shfs l] (shfs l) := (s13 l.length _ hl).spec
  have s42a : Spec Try.prog 42 [boxes b] (boxes b) := (s42 b hb hc).spec
  have s33a : Spec Try.prog 33 [stds s] (stds s) := (s33 s hs hx).spec
  refine good_run 12 (obs := []) (by kernel_rfl) trivial ?_
  refine good_call (c := True) (by kernel_rfl) (fun _ => SVles.refl _) (fun _ => s13a) (by kernel_rfl) ?_
  refine good_run 2 (obs := []) (by kernel_rfl) trivial ?_
  refine good_call (c := True) (by kernel_rfl) (fun _ => SVles.refl _) (fun _ => s42a) (by kernel_rfl) ?_
  refine good_run 2 (obs := []) (by kernel_rfl) trivial ?_
  refine good_call (c := True) (by kernel_rfl) (fun _ => SVles.refl _) (fun _ => s33a) (by kernel_rfl) ?_
  refine good_run 6 (obs := []) (by kernel_rfl) trivial ?_
  refine good_fin [List.length l = List.length l ∧ ∀ (i : Nat), i < List.length l → (fun i => Shf.cells (List.getD l i default)) i = (fun i => Shf.cells (List.getD l i default)) i, List.length b = List.length b ∧ ∀ (i : Nat), i < List.length b → (fun i => Box.cells (List.getD b i default)) i = (fun i => Box.cells (List.getD b i default)) i, List.length s = List.length s ∧ ∀ (i : Nat), i < List.length s → (fun i => Std.cells (List.getD s i default)) i = (fun i => Std.cells (List.getD s i default)) i] (by kernel_rfl) ⟨⟨rfl, fun _ _ => rfl⟩, ⟨rfl, fun _ _ => rfl⟩, ⟨rfl, fun _ _ => rfl⟩, trivial⟩
theorem s15 (l : List Shf) (b : List Box) (s : List Std) (hl : l.length ≤ 100000) (hb : b.length ≤ 100000) (hc : ∀ x ∈ b, x.Contents.length ≤ 100000) (hs : s.length ≤ 100000) (hx : ∀ y ∈ s, y.Boxes.length ≤ 100000) :
    Spec Try.prog 15 [store l b s] (.int .i64 (checkS l b s)) := by
  refine spec_of_good mixed Try.func15 F15_ok (by kernel_rfl) ?_
  refine good_run 9 (obs := [(0 : Nat) + (3 : Nat) ≤ (3 : Nat)]) (by kernel_rfl) (by (first | omega | assumption | exact ⟨rfl, trivial⟩ | simp only [AllP, inK_iff, roomOK_iff, decide_eq_true_eq, Bool.and_eq_true, Bool.or_eq_true, Bool.not_eq_true', decide_eq_false_iff_not, and_true, true_and]; (first | omega | (and_intros <;> intros <;> (try and_intros) <;> first | omega | assumption | exact trivial)))) ?_
  refine good_call (c := True) (by kernel_rfl) (fun _ => SVles.refl _) (fun _ => s17 (l) (b) (s) (by (first | omega | assumption | exact ⟨rfl, trivial⟩ | simp only [AllP, inK_iff, roomOK_iff, decide_eq_true_eq, Bool.and_eq_true, Bool.or_eq_true, Bool.not_eq_true', decide_eq_false_iff_not, and_true, true_and]; (first | omega | (and_intros <;> intros <;> (try and_intros) <;> first | omega | assumption | exact trivial)))) (by (first | omega | assumption | exact ⟨rfl, trivial⟩ | simp only [AllP, inK_iff, roomOK_iff, decide_eq_true_eq, Bool.and_eq_true, Bool.or_eq_true, Bool.not_eq_true', decide_eq_false_iff_not, and_true, true_and]; (first | omega | (and_intros <;> intros <;> (try and_intros) <;> first | omega | assumption | exact trivial)))) (by (first | omega | assumption | exact ⟨rfl, trivial⟩ | simp only [AllP, inK_iff, roomOK_iff, decide_eq_true_eq, Bool.and_eq_true, Bool.or_eq_true, Bool.not_eq_true', decide_eq_false_iff_not, and_true, true_and]; (first | omega | (and_intros <;> intros <;> (try and_intros) <;> first | omega | assumption | exact trivial)))) (by (first | omega | assumption | exact ⟨rfl, trivial⟩ | simp only [AllP, inK_iff, roomOK_iff, decide_eq_true_eq, Bool.and_eq_true, Bool.or_eq_true, Bool.not_eq_true', decide_eq_false_iff_not, and_true, true_and]; (first | omega | (and_intros <;> intros <;> (try and_intros) <;> first | omega | assumption | exact trivial)))) (by (first | omega | assumption | exact ⟨rfl, trivial⟩ | simp only [AllP, inK_iff, roomOK_iff, decide_eq_true_eq, Bool.and_eq_true, Bool.or_eq_true, Bool.not_eq_true', decide_eq_false_iff_not, and_true, true_and]; (first | omega | (and_intros <;> intros <;> (try and_intros) <;> first | omega | assumption | exact trivial))))) (by kernel_rfl) ?_
  refine good_run 14 (obs := []) (by kernel_rfl) trivial ?_
  refine good_call (c := True) (by kernel_rfl) (fun _ => SVles.refl _) (fun _ => s39 (l) (b) (s) (by (first | omega | assumption | exact ⟨rfl, trivial⟩ | simp only [AllP, inK_iff, roomOK_iff, decide_eq_true_eq, Bool.and_eq_true, Bool.or_eq_true, Bool.not_eq_true', decide_eq_false_iff_not, and_true, true_and]; (first | omega | (and_intros <;> intros <;> (try and_intros) <;> first | omega | assumption | exact trivial)))) (by (first | omega | assumption | exact ⟨rfl, trivial⟩ | simp only [AllP, inK_iff, roomOK_iff, decide_eq_true_eq, Bool.and_eq_true, Bool.or_eq_true, Bool.not_eq_true', decide_eq_false_iff_not, and_true, true_and]; (first | omega | (and_intros <;> intros <;> (try and_intros) <;> first | omega | assumption | exact trivial))))) (by kernel_rfl) ?_
  refine good_run 4 (obs := []) (by kernel_rfl) trivial ?_
  refine good_fin [checkS l b s = checkS l b s] (by kernel_rfl) ⟨rfl, trivial⟩
def exL : List Shf := [⟨1, 9, 300, 0⟩, ⟨2, 9, 250, 0⟩]
def exX : List Box := [⟨4, 100, 1, 0, []⟩, ⟨5, 120, 1, 0, []⟩, ⟨6, 90, 1, 0, []⟩]
def exS : List Std := [⟨1, [4, 5]⟩]
def exM : List Std := [⟨1, [4, 5]⟩, ⟨2, [6]⟩]
theorem ex_room : roomR exL exX exS 1 = (80, 0) := by decide
theorem ex_find : findR exL exX exS 5 = (1, 100, 0) := by decide
theorem ex_best : bestR exL exX exS 6 9 = (2, 0) := by decide
theorem ex_place1 : placeR exL exX exS 6 1 0 = ([], 12) := by decide
theorem ex_place2 : placeR exL exX exS 6 2 0 = (exM, 0) := by decide
theorem ints45 (g : Nat → List SV) (h0 : SVles (g 0) [.int .i64 4]) (h1 : SVles (g 1) [.int .i64 5]) : SVle (.lst 1 2 g) (ints [4, 5]) :=
  svle_lst rfl fun i hi => match i, hi with
    | 0, _ => h0
    | 1, _ => h1
    | i + 2, h => absurd h (by omega)
theorem s36 : Spec Try.prog 36 [] (store exL exX exS) := by
  refine spec_of_good mixed Try.func36 F36_ok (by kernel_rfl) ?_
  refine good_run 22 (obs := [(3 : Nat) = (3 : Nat) ∧ (0 : Nat) + (3 : Nat) ≤ (3 : Nat)]) (by kernel_rfl) (by (first | omega | assumption | exact ⟨rfl, trivial⟩ | simp only [AllP, inK_iff, roomOK_iff, decide_eq_true_eq, Bool.and_eq_true, Bool.or_eq_true, Bool.not_eq_true', decide_eq_false_iff_not, and_true, true_and]; (first | omega | (and_intros <;> intros <;> (try and_intros) <;> first | omega | assumption | exact trivial)))) ?_
  refine good_finW (SV.agg [SV.lst (4 : Nat) (2 : Nat) (cutRows (4 : Nat) [SV.int IntKind.i64 (1 : Int), SV.int IntKind.i64 (9 : Int), SV.int IntKind.i64 (300 : Int), SV.val (Value.int IntKind.i64 (Int.ofNat (0 : Nat))), SV.int IntKind.i64 (2 : Int), SV.int IntKind.i64 (9 : Int), SV.int IntKind.i64 (250 : Int), SV.val (Value.int IntKind.i64 (Int.ofNat (0 : Nat)))]), SV.lst (5 : Nat) (3 : Nat) (cutRows (5 : Nat) [SV.int IntKind.i64 (4 : Int), SV.int IntKind.i64 (100 : Int), SV.int IntKind.i64 (1 : Int), SV.val (Value.int IntKind.i64 (Int.ofNat (0 : Nat))), SV.val (Value.slice none (0 : Nat) (0 : Nat)), SV.int IntKind.i64 (5 : Int), SV.int IntKind.i64 (120 : Int), SV.int IntKind.i64 (1 : Int), SV.val (Value.int IntKind.i64 (Int.ofNat (0 : Nat))), SV.val (Value.slice none (0 : Nat) (0 : Nat)), SV.int IntKind.i64 (6 : Int), SV.int IntKind.i64 (90 : Int), SV.int IntKind.i64 (1 : Int), SV.val (Value.int IntKind.i64 (Int.ofNat (0 : Nat))), SV.val (Value.slice none (0 : Nat) (0 : Nat))]), SV.lst (2 : Nat) (1 : Nat) (cutRows (2 : Nat) [SV.int IntKind.i64 (1 : Int), SV.lst (1 : Nat) (2 : Nat) (cutRows (1 : Nat) [SV.int IntKind.i64 (4 : Int), SV.int IntKind.i64 (5 : Int)])])]) (by kernel_rfl) ?_
  refine svle_agg ⟨svle_lst rfl fun i hi => ?_, svle_lst rfl fun i hi => ?_, svle_lst rfl fun i hi => ?_, trivial⟩
  · match i, hi with
    | 0, _ => exact ⟨SVle.refl _, SVle.refl _, SVle.refl _, svle_val_int _ _, trivial⟩
    | 1, _ => exact ⟨SVle.refl _, SVle.refl _, SVle.refl _, svle_val_int _ _, trivial⟩
    | i + 2, h => exact absurd h (by omega)
  · match i, hi with
    | 0, _ => exact ⟨SVle.refl _, SVle.refl _, SVle.refl _, svle_val_int _ _, svle_nil rfl, trivial⟩
    | 1, _ => exact ⟨SVle.refl _, SVle.refl _, SVle.refl _, svle_val_int _ _, svle_nil rfl, trivial⟩
    | 2, _ => exact ⟨SVle.refl _, SVle.refl _, SVle.refl _, svle_val_int _ _, svle_nil rfl, trivial⟩
    | i + 3, h => exact absurd h (by omega)
  · match i, hi with
    | 0, _ => exact ⟨SVle.refl _, ints45 _ ⟨SVle.refl _, trivial⟩ ⟨SVle.refl _, trivial⟩, trivial⟩
    | i + 1, h => exact absurd h (by omega)
theorem exS_len : ∀ y ∈ exS, y.Boxes.length ≤ 100000 := by decide
theorem exM_len : ∀ y ∈ exM, y.Boxes.length ≤ 100000 := by decide
theorem s17a : Spec Try.prog 17 [store exL exX exS] (.tup [shfs exL, boxes exX, stds exS]) := s17 exL exX exS (by decide) (by decide) (by decide) (by decide) exS_len
theorem s18a : Spec Try.prog 18 [shfs exL, boxes exX, stds exS, .int .i64 1] (.tup [.int .i64 80, .int .i64 0]) := by
  have := s18 exL exX exS 1 (by decide) exS_len
  rwa [ex_room] at this
theorem s20a : Spec Try.prog 20 [shfs exL, boxes exX, stds exS, .int .i64 5] (.tup [.int .i64 1, .int .i64 100, .int .i64 0]) := by
  have := s20 exL exX exS 5 (by decide) exS_len
  rwa [ex_find] at this
theorem s22a : Spec Try.prog 22 [shfs exL, boxes exX, stds exS, .int .i64 6, .int .i64 9] (.tup [.int .i64 2, .int .i64 0]) := by
  have := s22 exL exX exS 6 9 (by decide) exS_len
  rwa [ex_best] at this
theorem s28a : Spec Try.prog 28 [shfs exL, boxes exX, stds exS, .agg [.int .i64 6, .int .i64 1, .int .i64 0]] (.tup [stds [], .int .i64 12]) := by
  have := s28 exL exX exS 6 1 0 (by decide) (by decide)
  rwa [ex_place1] at this
theorem s28b : Spec Try.prog 28 [shfs exL, boxes exX, stds exS, .agg [.int .i64 6, .int .i64 2, .int .i64 0]] (.tup [stds exM, .int .i64 0]) := by
  have := s28 exL exX exS 6 2 0 (by decide) (by decide)
  rwa [ex_place2] at this
theorem s32a : Spec Try.prog 32 [stds exM, stds exM] (.bool true) := by
  have := s32 exM exM exM_len
  rwa [decide_eq_true rfl] at this
theorem exM_le : SVle (.lst 2 2 (cutRows 2 [SV.int .i64 1, SV.lst 1 2 (cutRows 1 [SV.int .i64 4, SV.int .i64 5]), SV.int .i64 2, SV.lst 1 1 (cutRows 1 [SV.int .i64 6])])) (stds exM) :=
  svle_lst rfl fun i hi => match i, hi with
    | 0, _ => ⟨SVle.refl _, ints45 _ ⟨SVle.refl _, trivial⟩ ⟨SVle.refl _, trivial⟩, trivial⟩
    | 1, _ => ⟨SVle.refl _, svle_lst rfl fun i hi => (match i, hi with
      | 0, _ => ⟨SVle.refl _, trivial⟩
      | i + 1, h => absurd h (by omega)), trivial⟩
    | i + 2, h => absurd h (by omega)
theorem s10 : Spec Try.prog 10 [] (.bool true) := by
  refine spec_of_good mixed Try.func10 F10_ok (by kernel_rfl) ?_
  refine good_run 7 (obs := []) (by kernel_rfl) trivial ?_
  refine good_call (c := True) (by kernel_rfl) (fun _ => SVles.refl _) (fun _ => s36) (by kernel_rfl) ?_
  refine good_call (c := True) (by kernel_rfl) (fun _ => SVles.refl _) (fun _ => s17a) (by kernel_rfl) ?_
  refine good_run 14 (obs := []) (by kernel_rfl) trivial ?_
  refine good_call (c := True) (by kernel_rfl) (fun _ => SVles.refl _) (fun _ => s18a) (by kernel_rfl) ?_
  refine good_run 12 (obs := []) (by kernel_rfl) trivial ?_
  refine good_call (c := True) (by kernel_rfl) (fun _ => SVles.refl _) (fun _ => s20a) (by kernel_rfl) ?_
  refine good_run 14 (obs := []) (by kernel_rfl) trivial ?_
  refine good_call (c := True) (by kernel_rfl) (fun _ => SVles.refl _) (fun _ => s22a) (by kernel_rfl) ?_
  refine good_run 13 (obs := []) (by kernel_rfl) trivial ?_
  refine good_call (c := True) (by kernel_rfl) (fun _ => SVles.refl _) (fun _ => s28a) (by kernel_rfl) ?_
  refine good_run 13 (obs := []) (by kernel_rfl) trivial ?_
  refine good_call (c := True) (by kernel_rfl) (fun _ => SVles.refl _) (fun _ => s28b) (by kernel_rfl) ?_
  refine good_run 41 (obs := []) (by kernel_rfl) trivial ?_
  refine good_call (args := [SV.lst (2 : Nat) (2 : Nat) fun i => Std.cells (List.getD exM i default), SV.lst (2 : Nat) (2 : Nat) (cutRows (2 : Nat) [SV.int IntKind.i64 (1 : Int), SV.lst (1 : Nat) (2 : Nat) (cutRows (1 : Nat) [SV.int IntKind.i64 (4 : Int), SV.int IntKind.i64 (5 : Int)]), SV.int IntKind.i64 (2 : Int), SV.lst (1 : Nat) (1 : Nat) (cutRows (1 : Nat) [SV.int IntKind.i64 (6 : Int)])])]) (c := (decide ((80 : Int) = (80 : Int)) && decide ((1 : Int) = (1 : Int)) && decide ((100 : Int) = (100 : Int)) && decide ((2 : Int) = (2 : Int)) && decide ((12 : Int) = (12 : Int))) = true ∧ True) (by kernel_rfl) (fun _ => show SVles _ [stds exM, stds exM] from ⟨SVle.refl _, exM_le, trivial⟩) (fun _ => s32a) (by kernel_rfl) ?_
  refine good_run 16 (obs := [(decide ((80 : Int) = (80 : Int)) && decide ((1 : Int) = (1 : Int)) && decide ((100 : Int) = (100 : Int)) && decide ((2 : Int) = (2 : Int)) && decide ((12 : Int) = (12 : Int)) && true) = true ∧ True → InK IntKind.i64 ((0 : Int) + (0 : Int)), (decide ((80 : Int) = (80 : Int)) && decide ((1 : Int) = (1 : Int)) && decide ((100 : Int) = (100 : Int)) && decide ((2 : Int) = (2 : Int)) && decide ((12 : Int) = (12 : Int)) && true) = true ∧ True → InK IntKind.i64 ((0 : Int) + (0 : Int) + (0 : Int)), (decide ((80 : Int) = (80 : Int)) && decide ((1 : Int) = (1 : Int)) && decide ((100 : Int) = (100 : Int)) && decide ((2 : Int) = (2 : Int)) && decide ((12 : Int) = (12 : Int)) && true) = true ∧ True → InK IntKind.i64 ((0 : Int) + (0 : Int) + (0 : Int) + (0 : Int))]) (by kernel_rfl) (by (first | omega | assumption | exact ⟨rfl, trivial⟩ | simp only [AllP, inK_iff, roomOK_iff, decide_eq_true_eq, Bool.and_eq_true, Bool.or_eq_true, Bool.not_eq_true', decide_eq_false_iff_not, and_true, true_and]; (first | omega | (and_intros <;> intros <;> (try and_intros) <;> first | omega | assumption | exact trivial)))) ?_
  refine good_fin [(decide ((80 : Int) = (80 : Int)) && decide ((1 : Int) = (1 : Int)) && decide ((100 : Int) = (100 : Int)) && decide ((2 : Int) = (2 : Int)) && decide ((12 : Int) = (12 : Int)) && true && decide ((0 : Int) + (0 : Int) + (0 : Int) + (0 : Int) = (0 : Int))) = true] (by kernel_rfl) ⟨(by rfl), trivial⟩
end Go.Sx.T
