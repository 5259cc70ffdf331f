/- Contracts of functions of the program, each proved by running its code symbolically (CJ). -/
import Derived.Test.YteecckjnbeambaaCI
import Derived.Test.YteecckjnbeambaaSx4
namespace Go.Sx.T
open Go Go.Proofs Go.Sx
set_option maxRecDepth 100000
set_option maxHeartbeats 4000000
set_option linter.unusedVariables false
set_option linter.unusedSimpArgs false
theorem eq50 : EqOK Try.prog 50 2 := eqOK_flat 5 (by decide) (by kernel_rfl) ⟨_, Try.underlying50⟩ (by kernel_rfl)
theorem span_ints (p q : Span) : ([p.From, p.Until] = [q.From, q.Until]) ↔ p = q := by
  constructor
  · intro h
    simp only [List.cons.injEq, and_true] at h
    cases p; cases q; simp_all
  · intro h; rw [h]
theorem move_ints (p q : Move) : ([p.Day, p.Box, p.From.Kind, p.From.Of, p.To.Kind, p.To.Of] = [q.Day, q.Box, q.From.Kind, q.From.Of, q.To.Kind, q.To.Of]) ↔ p = q := by
  constructor
  · intro h
    simp only [List.cons.injEq, and_true] at h
    obtain ⟨a, b, ⟨c, d⟩, ⟨e, f⟩⟩ := p
    obtain ⟨a', b', ⟨c', d'⟩, ⟨e', f'⟩⟩ := q
    simp_all
  · intro h; rw [h]
theorem s17 (a b : List Move) : Spec Try.prog 17 [moves a, moves b] (.bool (decide (a = b))) := by
  refine spec_len 0 rfl (hasBody_of_slim Try.func17 F17_ok) fun hlen => ?_
  refine spec_of_good mixed Try.func17 F17_ok (by kernel_rfl) ?_
  have heq := eq26
  refine good_run 15 (obs := []) (by kernel_rfl) trivial ?_
  refine good_cond (!decide ((↑(List.length a) : Int) = (↑(List.length b) : Int))) (by kernel_rfl) (fun hc1 => ?_) (fun hc1 => ?_)
  · simp only [Bool.not_eq_true', decide_eq_false_iff_not] at hc1
    have : decide (a = b) = false := decide_eq_false fun e => hc1 (by rw [e])
    rw [this]
    refine good_run 7 (obs := []) (by kernel_rfl) trivial ?_
    refine good_fin [false = false] (by kernel_rfl) ⟨rfl, trivial⟩
  · simp only [Bool.not_eq_false', decide_eq_true_eq] at hc1
    have hab : a.length = b.length := by omega
    refine good_run 10 (obs := []) (by kernel_rfl) trivial ?_
    refine good_loopJ (fun k : Nat => ⟨[(13, .sv (.int .i64 (k))), (12, LV.sv (SV.int IntKind.i64 (↑(List.length a) : Int))), (0, LV.sv (SV.lst (6 : Nat) (List.length a) fun i => Move.cells (List.getD a i default))), (1, LV.sv (SV.lst (6 : Nat) (List.length b) fun i => Move.cells (List.getD b i default)))], []⟩) (fun k => k ≤ a.length ∧ ∀ i, i < k → a.getD i default = b.getD i default) (fun k => a.length - k) (0) [(0 : Int) = (0 : Int), (↑(List.length a) : Int) = (↑(List.length a) : Int), List.length a = List.length a ∧ ∀ (i : Nat), i < List.length a → (fun i => Move.cells (List.getD a i default)) i = (fun i => Move.cells (List.getD a i default)) i, List.length b = List.length b ∧ ∀ (i : Nat), i < List.length b → (fun i => Move.cells (List.getD b i default)) i = (fun i => Move.cells (List.getD b i default)) i] (by kernel_rfl) (by kernel_rfl) ⟨rfl, rfl, ⟨rfl, fun _ _ => rfl⟩, ⟨rfl, fun _ _ => rfl⟩, trivial⟩ ⟨by omega, by omega⟩ ?_
    intro k hk
    refine good_run 6 (obs := []) (by kernel_rfl) trivial ?_
    refine good_cond (decide ((↑k : Int) < (↑(List.length a) : Int))) (by kernel_rfl) (fun hc2 => ?_) (fun hc2 => ?_)
    · have hlt : k < a.length := by simp only [decide_eq_true_eq] at hc2; omega
      refine good_run 22 (obs := [True → (6 : Nat) = (6 : Nat) ∧ (0 : Int) ≤ (↑k : Int) ∧ (↑k : Int) < (↑(List.length a) : Int), True → (0 : Nat) + (6 : Nat) ≤ (6 : Nat), True → (6 : Nat) = (6 : Nat) ∧ (0 : Int) ≤ (↑k : Int) ∧ (↑k : Int) < (↑(List.length b) : Int), True → (0 : Nat) + (6 : Nat) ≤ (6 : Nat), True → EqOK Try.prog (26 : TypeId) (6 : Nat) ∧ (6 : Nat) = (6 : Nat)]) (by kernel_rfl) (by (first | omega | assumption | exact ⟨rfl, trivial⟩ | simp only [AllP, inK_iff, roomOK_iff, decide_eq_true_eq, Bool.and_eq_true, Bool.or_eq_true, Bool.not_eq_true', decide_eq_false_iff_not, and_true, true_and]; (first | omega | (and_intros <;> intros <;> (try and_intros) <;> first | omega | assumption | exact trivial)))) ?_
      refine good_cond (true ^^ decide ([(List.getD a k default).Day, (List.getD a k default).Box, (List.getD a k default).From.Kind, (List.getD a k default).From.Of, (List.getD a k default).To.Kind, (List.getD a k default).To.Of] = [(List.getD b k default).Day, (List.getD b k default).Box, (List.getD b k default).From.Kind, (List.getD b k default).From.Of, (List.getD b k default).To.Kind, (List.getD b k default).To.Of])) (by kernel_rfl) (fun hc3 => ?_) (fun hc3 => ?_)
      · have hne : a.getD k default ≠ b.getD k default := fun e => by rw [e] at hc3; simp at hc3
        have : decide (a = b) = false := decide_eq_false fun e => hne (by rw [e])
        rw [this]
        refine good_run 8 (obs := []) (by kernel_rfl) trivial ?_
        refine good_leaveJ (by kernel_rfl) ?_
        refine good_run 2 (obs := []) (by kernel_rfl) trivial ?_
        refine good_fin [false = false] (by kernel_rfl) ⟨rfl, trivial⟩
      · have he : a.getD k default = b.getD k default := by
          refine (move_ints _ _).1 ?_
          simpa using hc3
        refine good_run 7 (obs := [InK IntKind.i64 ((↑k : Int) + (1 : Int))]) (by kernel_rfl) (by (first | omega | assumption | exact ⟨rfl, trivial⟩ | simp only [AllP, inK_iff, roomOK_iff, decide_eq_true_eq, Bool.and_eq_true, Bool.or_eq_true, Bool.not_eq_true', decide_eq_false_iff_not, and_true, true_and]; (first | omega | (and_intros <;> intros <;> (try and_intros) <;> first | omega | assumption | exact trivial)))) ?_
        refine good_backJ (k + 1) [(↑k : Int) + (1 : Int) = (↑(k + (1 : Nat)) : Int), (↑(List.length a) : Int) = (↑(List.length a) : Int), List.length a = List.length a ∧ ∀ (i : Nat), i < List.length a → (fun i => Move.cells (List.getD a i default)) i = (fun i => Move.cells (List.getD a i default)) i, List.length b = List.length b ∧ ∀ (i : Nat), i < List.length b → (fun i => Move.cells (List.getD b i default)) i = (fun i => Move.cells (List.getD b i default)) i] (by kernel_rfl) (by kernel_rfl) ⟨(by omega), rfl, ⟨rfl, fun _ _ => rfl⟩, ⟨rfl, fun _ _ => rfl⟩, trivial⟩ ?_ (by show _ < _; omega)
        exact ⟨hlt, fun i hi => by
          rcases Nat.lt_or_ge i k with h | h
          · exact hk.2 i h
          · have : i = k := by omega
            subst this; exact he⟩
    · have hge : k = a.length := by simp only [decide_eq_false_iff_not] at hc2; have := hk.1; omega
      have : decide (a = b) = true := decide_eq_true (ext_getD a b hab fun i hi => hk.2 i (by omega))
      rw [this]
      refine good_run 2 (obs := []) (by kernel_rfl) trivial ?_
      refine good_leaveJ (by kernel_rfl) ?_
      refine good_run 7 (obs := []) (by kernel_rfl) trivial ?_
      refine good_fin [true = true] (by kernel_rfl) ⟨rfl, trivial⟩
theorem s30 (a b : List Span) : Spec Try.prog 30 [spans a, spans b] (.bool (decide (a = b))) := by
  refine spec_len 0 rfl (hasBody_of_slim Try.func30 F30_ok) fun hlen => ?_
  refine spec_of_good mixed Try.func30 F30_ok (by kernel_rfl) ?_
  have heq := eq50
  refine good_run 15 (obs := []) (by kernel_rfl) trivial ?_
  refine good_cond (!decide ((↑(List.length a) : Int) = (↑(List.length b) : Int))) (by kernel_rfl) (fun hc1 => ?_) (fun hc1 => ?_)
  · simp only [Bool.not_eq_true', decide_eq_false_iff_not] at hc1
    have : decide (a = b) = false := decide_eq_false fun e => hc1 (by rw [e])
    rw [this]
    refine good_run 7 (obs := []) (by kernel_rfl) trivial ?_
    refine good_fin [false = false] (by kernel_rfl) ⟨rfl, trivial⟩
  · simp only [Bool.not_eq_false', decide_eq_true_eq] at hc1
    have hab : a.length = b.length := by omega
    refine good_run 10 (obs := []) (by kernel_rfl) trivial ?_
    refine good_loopJ (fun k : Nat => ⟨[(13, .sv (.int .i64 (k))), (12, LV.sv (SV.int IntKind.i64 (↑(List.length a) : Int))), (0, LV.sv (SV.lst (2 : Nat) (List.length a) fun i => Span.cells (List.getD a i default))), (1, LV.sv (SV.lst (2 : Nat) (List.length b) fun i => Span.cells (List.getD b i default)))], []⟩) (fun k => k ≤ a.length ∧ ∀ i, i < k → a.getD i default = b.getD i default) (fun k => a.length - k) (0) [(0 : Int) = (0 : Int), (↑(List.length a) : Int) = (↑(List.length a) : Int), List.length a = List.length a ∧ ∀ (i : Nat), i < List.length a → (fun i => Span.cells (List.getD a i default)) i = (fun i => Span.cells (List.getD a i default)) i, List.length b = List.length b ∧ ∀ (i : Nat), i < List.length b → (fun i => Span.cells (List.getD b i default)) i = (fun i => Span.cells (List.getD b i default)) i] (by kernel_rfl) (by kernel_rfl) ⟨rfl, rfl, ⟨rfl, fun _ _ => rfl⟩, ⟨rfl, fun _ _ => rfl⟩, trivial⟩ ⟨by omega, by omega⟩ ?_
    intro k hk
    refine good_run 6 (obs := []) (by kernel_rfl) trivial ?_
    refine good_cond (decide ((↑k : Int) < (↑(List.length a) : Int))) (by kernel_rfl) (fun hc2 => ?_) (fun hc2 => ?_)
    · have hlt : k < a.length := by simp only [decide_eq_true_eq] at hc2; omega
      refine good_run 22 (obs := [True → (2 : Nat) = (2 : Nat) ∧ (0 : Int) ≤ (↑k : Int) ∧ (↑k : Int) < (↑(List.length a) : Int), True → (0 : Nat) + (2 : Nat) ≤ (2 : Nat), True → (2 : Nat) = (2 : Nat) ∧ (0 : Int) ≤ (↑k : Int) ∧ (↑k : Int) < (↑(List.length b) : Int), True → (0 : Nat) + (2 : Nat) ≤ (2 : Nat), True → EqOK Try.prog (50 : TypeId) (2 : Nat) ∧ (2 : Nat) = (2 : Nat)]) (by kernel_rfl) (by (first | omega | assumption | exact ⟨rfl, trivial⟩ | simp only [AllP, inK_iff, roomOK_iff, decide_eq_true_eq, Bool.and_eq_true, Bool.or_eq_true, Bool.not_eq_true', decide_eq_false_iff_not, and_true, true_and]; (first | omega | (and_intros <;> intros <;> (try and_intros) <;> first | omega | assumption | exact trivial)))) ?_
      refine good_cond (true ^^ decide ([(List.getD a k default).From, (List.getD a k default).Until] = [(List.getD b k default).From, (List.getD b k default).Until])) (by kernel_rfl) (fun hc3 => ?_) (fun hc3 => ?_)
      · have hne : a.getD k default ≠ b.getD k default := fun e => by rw [e] at hc3; simp at hc3
        have : decide (a = b) = false := decide_eq_false fun e => hne (by rw [e])
        rw [this]
        refine good_run 8 (obs := []) (by kernel_rfl) trivial ?_
        refine good_leaveJ (by kernel_rfl) ?_
        refine good_run 2 (obs := []) (by kernel_rfl) trivial ?_
        refine good_fin [false = false] (by kernel_rfl) ⟨rfl, trivial⟩
      · have he : a.getD k default = b.getD k default := by
          refine (span_ints _ _).1 ?_
          simpa using hc3
        refine good_run 7 (obs := [InK IntKind.i64 ((↑k : Int) + (1 : Int))]) (by kernel_rfl) (by (first | omega | assumption | exact ⟨rfl, trivial⟩ | simp only [AllP, inK_iff, roomOK_iff, decide_eq_true_eq, Bool.and_eq_true, Bool.or_eq_true, Bool.not_eq_true', decide_eq_false_iff_not, and_true, true_and]; (first | omega | (and_intros <;> intros <;> (try and_intros) <;> first | omega | assumption | exact trivial)))) ?_
        refine good_backJ (k + 1) [(↑k : Int) + (1 : Int) = (↑(k + (1 : Nat)) : Int), (↑(List.length a) : Int) = (↑(List.length a) : Int), List.length a = List.length a ∧ ∀ (i : Nat), i < List.length a → (fun i => Span.cells (List.getD a i default)) i = (fun i => Span.cells (List.getD a i default)) i, List.length b = List.length b ∧ ∀ (i : Nat), i < List.length b → (fun i => Span.cells (List.getD b i default)) i = (fun i => Span.cells (List.getD b i default)) i] (by kernel_rfl) (by kernel_rfl) ⟨(by omega), rfl, ⟨rfl, fun _ _ => rfl⟩, ⟨rfl, fun _ _ => rfl⟩, trivial⟩ ?_ (by show _ < _; omega)
        exact ⟨hlt, fun i hi => by
          rcases Nat.lt_or_ge i k with h | h
          · exact hk.2 i h
          · have : i = k := by omega
            subst this; exact he⟩
    · have hge : k = a.length := by simp only [decide_eq_false_iff_not] at hc2; have := hk.1; omega
      have : decide (a = b) = true := decide_eq_true (ext_getD a b hab fun i hi => hk.2 i (by omega))
      rw [this]
      refine good_run 2 (obs := []) (by kernel_rfl) trivial ?_
      refine good_leaveJ (by kernel_rfl) ?_
      refine good_run 7 (obs := []) (by kernel_rfl) trivial ?_
      refine good_fin [true = true] (by kernel_rfl) ⟨rfl, trivial⟩
theorem s29 (a b : List Place) : Spec Try.prog 29 [places a, places b] (.bool (decide (a = b))) := by
  refine spec_len 0 rfl (hasBody_of_slim Try.func29 F29_ok) fun hlen => ?_
  refine spec_of_good mixed Try.func29 F29_ok (by kernel_rfl) ?_
  have heq := eq24
  refine good_run 15 (obs := []) (by kernel_rfl) trivial ?_
  refine good_cond (!decide ((↑(List.length a) : Int) = (↑(List.length b) : Int))) (by kernel_rfl) (fun hc1 => ?_) (fun hc1 => ?_)
  · simp only [Bool.not_eq_true', decide_eq_false_iff_not] at hc1
    have : decide (a = b) = false := decide_eq_false fun e => hc1 (by rw [e])
    rw [this]
    refine good_run 7 (obs := []) (by kernel_rfl) trivial ?_
    refine good_fin [false = false] (by kernel_rfl) ⟨rfl, trivial⟩
  · simp only [Bool.not_eq_false', decide_eq_true_eq] at hc1
    have hab : a.length = b.length := by omega
    refine good_run 10 (obs := []) (by kernel_rfl) trivial ?_
    refine good_loopJ (fun k : Nat => ⟨[(13, .sv (.int .i64 (k))), (12, LV.sv (SV.int IntKind.i64 (↑(List.length a) : Int))), (0, LV.sv (SV.lst (2 : Nat) (List.length a) fun i => Place.cells (List.getD a i default))), (1, LV.sv (SV.lst (2 : Nat) (List.length b) fun i => Place.cells (List.getD b i default)))], []⟩) (fun k => k ≤ a.length ∧ ∀ i, i < k → a.getD i default = b.getD i default) (fun k => a.length - k) (0) [(0 : Int) = (0 : Int), (↑(List.length a) : Int) = (↑(List.length a) : Int), List.length a = List.length a ∧ ∀ (i : Nat), i < List.length a → (fun i => Place.cells (List.getD a i default)) i = (fun i => Place.cells (List.getD a i default)) i, List.length b = List.length b ∧ ∀ (i : Nat), i < List.length b → (fun i => Place.cells (List.getD b i default)) i = (fun i => Place.cells (List.getD b i default)) i] (by kernel_rfl) (by kernel_rfl) ⟨rfl, rfl, ⟨rfl, fun _ _ => rfl⟩, ⟨rfl, fun _ _ => rfl⟩, trivial⟩ ⟨by omega, by omega⟩ ?_
    intro k hk
    refine good_run 6 (obs := []) (by kernel_rfl) trivial ?_
    refine good_cond (decide ((↑k : Int) < (↑(List.length a) : Int))) (by kernel_rfl) (fun hc2 => ?_) (fun hc2 => ?_)
    · have hlt : k < a.length := by simp only [decide_eq_true_eq] at hc2; omega
      refine good_run 22 (obs := [True → (2 : Nat) = (2 : Nat) ∧ (0 : Int) ≤ (↑k : Int) ∧ (↑k : Int) < (↑(List.length a) : Int), True → (0 : Nat) + (2 : Nat) ≤ (2 : Nat), True → (2 : Nat) = (2 : Nat) ∧ (0 : Int) ≤ (↑k : Int) ∧ (↑k : Int) < (↑(List.length b) : Int), True → (0 : Nat) + (2 : Nat) ≤ (2 : Nat), True → EqOK Try.prog (24 : TypeId) (2 : Nat) ∧ (2 : Nat) = (2 : Nat)]) (by kernel_rfl) (by (first | omega | assumption | exact ⟨rfl, trivial⟩ | simp only [AllP, inK_iff, roomOK_iff, decide_eq_true_eq, Bool.and_eq_true, Bool.or_eq_true, Bool.not_eq_true', decide_eq_false_iff_not, and_true, true_and]; (first | omega | (and_intros <;> intros <;> (try and_intros) <;> first | omega | assumption | exact trivial)))) ?_
      refine good_cond (true ^^ decide ([(List.getD a k default).Kind, (List.getD a k default).Of] = [(List.getD b k default).Kind, (List.getD b k default).Of])) (by kernel_rfl) (fun hc3 => ?_) (fun hc3 => ?_)
      · have hne : a.getD k default ≠ b.getD k default := fun e => by rw [e] at hc3; simp at hc3
        have : decide (a = b) = false := decide_eq_false fun e => hne (by rw [e])
        rw [this]
        refine good_run 8 (obs := []) (by kernel_rfl) trivial ?_
        refine good_leaveJ (by kernel_rfl) ?_
        refine good_run 2 (obs := []) (by kernel_rfl) trivial ?_
        refine good_fin [false = false] (by kernel_rfl) ⟨rfl, trivial⟩
      · have he : a.getD k default = b.getD k default := by
          refine (place_ints _ _).1 ?_
          simpa using hc3
        refine good_run 7 (obs := [InK IntKind.i64 ((↑k : Int) + (1 : Int))]) (by kernel_rfl) (by (first | omega | assumption | exact ⟨rfl, trivial⟩ | simp only [AllP, inK_iff, roomOK_iff, decide_eq_true_eq, Bool.and_eq_true, Bool.or_eq_true, Bool.not_eq_true', decide_eq_false_iff_not, and_true, true_and]; (first | omega | (and_intros <;> intros <;> (try and_intros) <;> first | omega | assumption | exact trivial)))) ?_
        refine good_backJ (k + 1) [(↑k : Int) + (1 : Int) = (↑(k + (1 : Nat)) : Int), (↑(List.length a) : Int) = (↑(List.length a) : Int), List.length a = List.length a ∧ ∀ (i : Nat), i < List.length a → (fun i => Place.cells (List.getD a i default)) i = (fun i => Place.cells (List.getD a i default)) i, List.length b = List.length b ∧ ∀ (i : Nat), i < List.length b → (fun i => Place.cells (List.getD b i default)) i = (fun i => Place.cells (List.getD b i default)) i] (by kernel_rfl) (by kernel_rfl) ⟨(by omega), rfl, ⟨rfl, fun _ _ => rfl⟩, ⟨rfl, fun _ _ => rfl⟩, trivial⟩ ?_ (by show _ < _; omega)
        exact ⟨hlt, fun i hi => by
          rcases Nat.lt_or_ge i k with h | h
          · exact hk.2 i h
          · have : i = k := by omega
            subst this; exact he⟩
    · have hge : k = a.length := by simp only [decide_eq_false_iff_not] at hc2; have := hk.1; omega
      have : decide (a = b) = true := decide_eq_true (ext_getD a b hab fun i hi => hk.2 i (by omega))
      rw [this]
      refine good_run 2 (obs := []) (by kernel_rfl) trivial ?_
      refine good_leaveJ (by kernel_rfl) ?_
      refine good_run 7 (obs := []) (by kernel_rfl) trivial ?_
      refine good_fin [true = true] (by kernel_rfl) ⟨rfl, trivial⟩
theorem s22 (a b : List Int) : Spec Try.prog 22 [ints a, ints b] (.bool (decide (a = b))) := by
  refine spec_len 0 rfl (hasBody_of_slim Try.func22 F22_ok) fun hlen => ?_
  refine spec_of_good mixed Try.func22 F22_ok (by kernel_rfl) ?_
  refine good_run 15 (obs := []) (by kernel_rfl) trivial ?_
  refine good_cond (!decide ((↑(List.length a) : Int) = (↑(List.length b) : Int))) (by kernel_rfl) (fun hc1 => ?_) (fun hc1 => ?_)
  · simp only [Bool.not_eq_true', decide_eq_false_iff_not] at hc1
    have : decide (a = b) = false := decide_eq_false fun e => hc1 (by rw [e])
    rw [this]
    refine good_run 7 (obs := []) (by kernel_rfl) trivial ?_
    refine good_fin [false = false] (by kernel_rfl) ⟨rfl, trivial⟩
  · simp only [Bool.not_eq_false', decide_eq_true_eq] at hc1
    have hab : a.length = b.length := by omega
    refine good_run 10 (obs := []) (by kernel_rfl) trivial ?_
    refine good_loopJ (fun k : Nat => ⟨[(13, .sv (.int .i64 (k))), (12, LV.sv (SV.int IntKind.i64 (↑(List.length a) : Int))), (0, LV.sv (SV.lst (1 : Nat) (List.length a) fun i => [SV.int IntKind.i64 (List.getD a i (0 : Int))])), (1, LV.sv (SV.lst (1 : Nat) (List.length b) fun i => [SV.int IntKind.i64 (List.getD b i (0 : Int))]))], []⟩) (fun k => k ≤ a.length ∧ ∀ i, i < k → a.getD i 0 = b.getD i 0) (fun k => a.length - k) (0) [(0 : Int) = (0 : Int), (↑(List.length a) : Int) = (↑(List.length a) : Int), List.length a = List.length a ∧ ∀ (i : Nat), i < List.length a → (fun i => [SV.int IntKind.i64 (List.getD a i (0 : Int))]) i = (fun i => [SV.int IntKind.i64 (List.getD a i (0 : Int))]) i, List.length b = List.length b ∧ ∀ (i : Nat), i < List.length b → (fun i => [SV.int IntKind.i64 (List.getD b i (0 : Int))]) i = (fun i => [SV.int IntKind.i64 (List.getD b i (0 : Int))]) i] (by kernel_rfl) (by kernel_rfl) ⟨rfl, rfl, ⟨rfl, fun _ _ => rfl⟩, ⟨rfl, fun _ _ => rfl⟩, trivial⟩ ⟨by omega, by omega⟩ ?_
    intro k hk
    refine good_run 6 (obs := []) (by kernel_rfl) trivial ?_
    refine good_cond (decide ((↑k : Int) < (↑(List.length a) : Int))) (by kernel_rfl) (fun hc2 => ?_) (fun hc2 => ?_)
    · have hlt : k < a.length := by simp only [decide_eq_true_eq] at hc2; omega
      refine good_run 22 (obs := [True → (1 : Nat) = (1 : Nat) ∧ (0 : Int) ≤ (↑k : Int) ∧ (↑k : Int) < (↑(List.length a) : Int), True → (1 : Nat) = (1 : Nat) ∧ (0 : Int) ≤ (↑k : Int) ∧ (↑k : Int) < (↑(List.length b) : Int)]) (by kernel_rfl) (by (first | omega | assumption | exact ⟨rfl, trivial⟩ | simp only [AllP, inK_iff, roomOK_iff, decide_eq_true_eq, Bool.and_eq_true, Bool.or_eq_true, Bool.not_eq_true', decide_eq_false_iff_not, and_true, true_and]; (first | omega | (and_intros <;> intros <;> (try and_intros) <;> first | omega | assumption | exact trivial)))) ?_
      refine good_cond (!decide (List.getD a k (0 : Int) = List.getD b k (0 : Int))) (by kernel_rfl) (fun hc3 => ?_) (fun hc3 => ?_)
      · have hne : a.getD k 0 ≠ b.getD k 0 := by simpa only [Bool.not_eq_true', decide_eq_false_iff_not] using hc3
        have : decide (a = b) = false := decide_eq_false fun e => hne (by rw [e])
        rw [this]
        refine good_run 8 (obs := []) (by kernel_rfl) trivial ?_
        refine good_leaveJ (by kernel_rfl) ?_
        refine good_run 2 (obs := []) (by kernel_rfl) trivial ?_
        refine good_fin [false = false] (by kernel_rfl) ⟨rfl, trivial⟩
      · have he : a.getD k 0 = b.getD k 0 := by simpa only [Bool.not_eq_false', decide_eq_true_eq] using hc3
        refine good_run 7 (obs := [InK IntKind.i64 ((↑k : Int) + (1 : Int))]) (by kernel_rfl) (by (first | omega | assumption | exact ⟨rfl, trivial⟩ | simp only [AllP, inK_iff, roomOK_iff, decide_eq_true_eq, Bool.and_eq_true, Bool.or_eq_true, Bool.not_eq_true', decide_eq_false_iff_not, and_true, true_and]; (first | omega | (and_intros <;> intros <;> (try and_intros) <;> first | omega | assumption | exact trivial)))) ?_
        refine good_backJ (k + 1) [(↑k : Int) + (1 : Int) = (↑(k + (1 : Nat)) : Int), (↑(List.length a) : Int) = (↑(List.length a) : Int), List.length a = List.length a ∧ ∀ (i : Nat), i < List.length a → (fun i => [SV.int IntKind.i64 (List.getD a i (0 : Int))]) i = (fun i => [SV.int IntKind.i64 (List.getD a i (0 : Int))]) i, List.length b = List.length b ∧ ∀ (i : Nat), i < List.length b → (fun i => [SV.int IntKind.i64 (List.getD b i (0 : Int))]) i = (fun i => [SV.int IntKind.i64 (List.getD b i (0 : Int))]) i] (by kernel_rfl) (by kernel_rfl) ⟨(by omega), rfl, ⟨rfl, fun _ _ => rfl⟩, ⟨rfl, fun _ _ => rfl⟩, trivial⟩ ?_ (by show _ < _; omega)
        exact ⟨hlt, fun i hi => by
          rcases Nat.lt_or_ge i k with h | h
          · exact hk.2 i h
          · have : i = k := by omega
            subst this; exact he⟩
    · have hge : k = a.length := by simp only [decide_eq_false_iff_not] at hc2; have := hk.1; omega
      have : decide (a = b) = true := decide_eq_true (ext_getD a b hab fun i hi => hk.2 i (by omega))
      rw [this]
      refine good_run 2 (obs := []) (by kernel_rfl) trivial ?_
      refine good_leaveJ (by kernel_rfl) ?_
      refine good_run 7 (obs := []) (by kernel_rfl) trivial ?_
      refine good_fin [true = true] (by kernel_rfl) ⟨rfl, trivial⟩
theorem lastP_take (l : List Move) (k : Nat) (hk : k < l.length) (b : Int) : lastP (l.take (k + 1)) b = if (l.getD k default).Box = b then (l.getD k default).To else lastP (l.take k) b := by
  rw [take_snoc l default k hk, lastP_snoc]
theorem s40 (l : List Move) (b : Int) : Spec Try.prog 40 [moves l, .int .i64 b] (lastP l b).sv := by
  refine spec_len 0 rfl (hasBody_of_slim Try.func40 F40_ok) fun hlen => ?_
  refine spec_of_good mixed Try.func40 F40_ok (by kernel_rfl) ?_
  refine good_run 21 (obs := [(2 : Nat) = (2 : Nat) ∧ (0 : Nat) + (2 : Nat) ≤ (2 : Nat)]) (by kernel_rfl) (by (first | omega | assumption | exact ⟨rfl, trivial⟩ | simp only [AllP, inK_iff, roomOK_iff, decide_eq_true_eq, Bool.and_eq_true, Bool.or_eq_true, Bool.not_eq_true', decide_eq_false_iff_not, and_true, true_and]; (first | omega | (and_intros <;> intros <;> (try and_intros) <;> first | omega | assumption | exact trivial)))) ?_
  refine good_loopJ (fun k : Nat => ⟨[(11, .sv (.int .i64 (k))), (10, LV.sv (SV.int IntKind.i64 (↑(List.length l) : Int))), (9, LV.sv (SV.lst (6 : Nat) (List.length l) fun i => Move.cells (List.getD l i default))), (5, LV.ptr (1 : Nat) (0 : Nat)), (4, LV.ptr (0 : Nat) (0 : Nat)), (1, LV.sv (SV.int IntKind.i64 b))], [Blk.cells (24 : Nat) true [SV.val (Value.int IntKind.i64 (Int.ofNat (0 : Nat))), SV.val (Value.int IntKind.i64 (Int.ofNat (0 : Nat)))], .cells 24 true [.int .i64 (lastP (l.take k) b).Kind, .int .i64 (lastP (l.take k) b).Of]]⟩) (fun k => k ≤ l.length) (fun k => l.length - k) (0) [SVle (SV.val (Value.int IntKind.i64 (Int.ofNat (0 : Nat)))) (SV.val (Value.int IntKind.i64 (Int.ofNat (0 : Nat)))), SVle (SV.val (Value.int IntKind.i64 (Int.ofNat (0 : Nat)))) (SV.val (Value.int IntKind.i64 (Int.ofNat (0 : Nat)))), (0 : Int) = (lastP [] b).Kind, (0 : Int) = (lastP [] b).Of, (0 : Int) = (0 : Int), (↑(List.length l) : Int) = (↑(List.length l) : Int), List.length l = List.length l ∧ ∀ (i : Nat), i < List.length l → (fun i => Move.cells (List.getD l i default)) i = (fun i => Move.cells (List.getD l i default)) i, b = b] (by kernel_rfl) (by kernel_rfl) ⟨SVle.refl _, SVle.refl _, (by rfl), (by rfl), rfl, rfl, ⟨rfl, fun _ _ => rfl⟩, rfl, trivial⟩ (by omega) ?_
  intro k hk
  refine good_run 6 (obs := []) (by kernel_rfl) trivial ?_
  refine good_cond (decide ((↑k : Int) < (↑(List.length l) : Int))) (by kernel_rfl) (fun hc1 => ?_) (fun hc1 => ?_)
  · have hlt : k < l.length := by simp only [decide_eq_true_eq] at hc1; omega
    have hs := lastP_take l k hlt b
    refine good_run 19 (obs := [(6 : Nat) = (6 : Nat) ∧ (0 : Int) ≤ (↑k : Int) ∧ (↑k : Int) < (↑(List.length l) : Int), (0 : Nat) + (6 : Nat) ≤ (6 : Nat), (6 : Nat) = (6 : Nat) ∧ (0 : Nat) + (6 : Nat) ≤ (6 : Nat)]) (by kernel_rfl) (by (first | omega | assumption | exact ⟨rfl, trivial⟩ | simp only [AllP, inK_iff, roomOK_iff, decide_eq_true_eq, Bool.and_eq_true, Bool.or_eq_true, Bool.not_eq_true', decide_eq_false_iff_not, and_true, true_and]; (first | omega | (and_intros <;> intros <;> (try and_intros) <;> first | omega | assumption | exact trivial)))) ?_
    refine good_cond (decide ((List.getD l k default).Box = b)) (by kernel_rfl) (fun hc2 => ?_) (fun hc2 => ?_)
    · rw [if_pos (by simpa using hc2)] at hs
      refine good_run 12 (obs := [(4 : Nat) + (2 : Nat) ≤ (6 : Nat), (2 : Nat) = (2 : Nat) ∧ (0 : Nat) + (2 : Nat) ≤ (2 : Nat), InK IntKind.i64 ((↑k : Int) + (1 : Int))]) (by kernel_rfl) (by (first | omega | assumption | exact ⟨rfl, trivial⟩ | simp only [AllP, inK_iff, roomOK_iff, decide_eq_true_eq, Bool.and_eq_true, Bool.or_eq_true, Bool.not_eq_true', decide_eq_false_iff_not, and_true, true_and]; (first | omega | (and_intros <;> intros <;> (try and_intros) <;> first | omega | assumption | exact trivial)))) ?_
      refine good_backJ (k + 1) [SVle (SV.val (Value.int IntKind.i64 (Int.ofNat (0 : Nat)))) (SV.val (Value.int IntKind.i64 (Int.ofNat (0 : Nat)))), SVle (SV.val (Value.int IntKind.i64 (Int.ofNat (0 : Nat)))) (SV.val (Value.int IntKind.i64 (Int.ofNat (0 : Nat)))), (List.getD l k default).To.Kind = (lastP (List.take (k + (1 : Nat)) l) b).Kind, (List.getD l k default).To.Of = (lastP (List.take (k + (1 : Nat)) l) b).Of, (↑k : Int) + (1 : Int) = (↑(k + (1 : Nat)) : Int), (↑(List.length l) : Int) = (↑(List.length l) : Int), List.length l = List.length l ∧ ∀ (i : Nat), i < List.length l → (fun i => Move.cells (List.getD l i default)) i = (fun i => Move.cells (List.getD l i default)) i, b = b] (by kernel_rfl) (by kernel_rfl) ⟨SVle.refl _, SVle.refl _, ?_, ?_, (by omega), rfl, ⟨rfl, fun _ _ => rfl⟩, rfl, trivial⟩ (by omega) (by show _ < _; omega)
      · rw [hs]
      · rw [hs]
    · rw [if_neg (by simpa using hc2)] at hs
      refine good_run 7 (obs := [InK IntKind.i64 ((↑k : Int) + (1 : Int))]) (by kernel_rfl) (by (first | omega | assumption | exact ⟨rfl, trivial⟩ | simp only [AllP, inK_iff, roomOK_iff, decide_eq_true_eq, Bool.and_eq_true, Bool.or_eq_true, Bool.not_eq_true', decide_eq_false_iff_not, and_true, true_and]; (first | omega | (and_intros <;> intros <;> (try and_intros) <;> first | omega | assumption | exact trivial)))) ?_
      refine good_backJ (k + 1) [SVle (SV.val (Value.int IntKind.i64 (Int.ofNat (0 : Nat)))) (SV.val (Value.int IntKind.i64 (Int.ofNat (0 : Nat)))), SVle (SV.val (Value.int IntKind.i64 (Int.ofNat (0 : Nat)))) (SV.val (Value.int IntKind.i64 (Int.ofNat (0 : Nat)))), (lastP (List.take k l) b).Kind = (lastP (List.take (k + (1 : Nat)) l) b).Kind, (lastP (List.take k l) b).Of = (lastP (List.take (k + (1 : Nat)) l) b).Of, (↑k : Int) + (1 : Int) = (↑(k + (1 : Nat)) : Int), (↑(List.length l) : Int) = (↑(List.length l) : Int), List.length l = List.length l ∧ ∀ (i : Nat), i < List.length l → (fun i => Move.cells (List.getD l i default)) i = (fun i => Move.cells (List.getD l i default)) i, b = b] (by kernel_rfl) (by kernel_rfl) ⟨SVle.refl _, SVle.refl _, ?_, ?_, (by omega), rfl, ⟨rfl, fun _ _ => rfl⟩, rfl, trivial⟩ (by omega) (by show _ < _; omega)
      · rw [hs]
      · rw [hs]
  · have hge : k = l.length := by simp only [decide_eq_false_iff_not] at hc1; omega
    subst hge
    rw [List.take_length]
    refine good_run 2 (obs := []) (by kernel_rfl) trivial ?_
    refine good_leaveJ (by kernel_rfl) ?_
    refine good_run 8 (obs := [(0 : Nat) + (2 : Nat) ≤ (2 : Nat), (2 : Nat) = (2 : Nat) ∧ (0 : Nat) + (2 : Nat) ≤ (2 : Nat)]) (by kernel_rfl) (by (first | omega | assumption | exact ⟨rfl, trivial⟩ | simp only [AllP, inK_iff, roomOK_iff, decide_eq_true_eq, Bool.and_eq_true, Bool.or_eq_true, Bool.not_eq_true', decide_eq_false_iff_not, and_true, true_and]; (first | omega | (and_intros <;> intros <;> (try and_intros) <;> first | omega | assumption | exact trivial)))) ?_
    refine good_fin [(lastP l b).Kind = (lastP l b).Kind, (lastP l b).Of = (lastP l b).Of] (by kernel_rfl) ⟨rfl, rfl, trivial⟩
theorem until_eq (l : List Move) (d : Int) (k : Nat) (hk : k ≤ l.length) (h1 : ∀ j, j < k → (l.getD j default).Day ≤ d) (h2 : k < l.length → d < (l.getD k default).Day) : (untilL l d).length = k := by
  rcases Nat.lt_trichotomy (untilL l d).length k with h | h | h
  · have := until_stop l d (by omega)
    have := h1 _ h
    omega
  · exact h
  · have := until_below l d k h
    have := h2 (by have := until_le l d; omega)
    omega
theorem s41 (l : List Move) (d : Int) : Spec Try.prog 41 [moves l, .int .i64 d] (moves (untilL l d)) := by
  refine spec_len 0 rfl (hasBody_of_slim Try.func41 F41_ok) fun hlen => ?_
  refine spec_of_good mixed Try.func41 F41_ok (by kernel_rfl) ?_
  refine good_run 12 (obs := []) (by kernel_rfl) trivial ?_
  refine good_loopJ (fun k : Nat => ⟨[(5, .sv (.int .i64 (k))), (0, LV.sv (SV.lst (6 : Nat) (List.length l) fun i => Move.cells (List.getD l i default))), (1, LV.sv (SV.int IntKind.i64 d))], []⟩) (fun k => k ≤ l.length ∧ ∀ j, j < k → (l.getD j default).Day ≤ d) (fun k => l.length - k) (0) [(0 : Int) = (0 : Int), List.length l = List.length l ∧ ∀ (i : Nat), i < List.length l → (fun i => Move.cells (List.getD l i default)) i = (fun i => Move.cells (List.getD l i default)) i, d = d] (by kernel_rfl) (by kernel_rfl) ⟨rfl, ⟨rfl, fun _ _ => rfl⟩, rfl, trivial⟩ ⟨by omega, by omega⟩ ?_
  intro k hk
  refine good_run 18 (obs := [decide ((↑k : Int) < (↑(List.length l) : Int)) = true ∧ True → (6 : Nat) = (6 : Nat) ∧ (0 : Int) ≤ (↑k : Int) ∧ (↑k : Int) < (↑(List.length l) : Int)]) (by kernel_rfl) (by (first | omega | assumption | exact ⟨rfl, trivial⟩ | simp only [AllP, inK_iff, roomOK_iff, decide_eq_true_eq, Bool.and_eq_true, Bool.or_eq_true, Bool.not_eq_true', decide_eq_false_iff_not, and_true, true_and]; (first | omega | (and_intros <;> intros <;> (try and_intros) <;> first | omega | assumption | exact trivial)))) ?_
  refine good_cond (decide ((↑k : Int) < (↑(List.length l) : Int)) && decide ((List.getD l k default).Day ≤ d)) (by kernel_rfl) (fun hc1 => ?_) (fun hc1 => ?_)
  · simp only [Bool.and_eq_true, decide_eq_true_eq] at hc1
    refine good_run 9 (obs := [InK IntKind.i64 ((↑k : Int) + (1 : Int))]) (by kernel_rfl) (by (first | omega | assumption | exact ⟨rfl, trivial⟩ | simp only [AllP, inK_iff, roomOK_iff, decide_eq_true_eq, Bool.and_eq_true, Bool.or_eq_true, Bool.not_eq_true', decide_eq_false_iff_not, and_true, true_and]; (first | omega | (and_intros <;> intros <;> (try and_intros) <;> first | omega | assumption | exact trivial)))) ?_
    refine good_backJ (k + 1) [(↑k : Int) + (1 : Int) = (↑(k + (1 : Nat)) : Int), List.length l = List.length l ∧ ∀ (i : Nat), i < List.length l → (fun i => Move.cells (List.getD l i default)) i = (fun i => Move.cells (List.getD l i default)) i, d = d] (by kernel_rfl) (by kernel_rfl) ⟨(by omega), ⟨rfl, fun _ _ => rfl⟩, rfl, trivial⟩ ?_ (by show _ < _; omega)
    exact ⟨by omega, fun j hj => by
      rcases Nat.lt_or_ge j k with h | h
      · exact hk.2 j h
      · have : j = k := by omega
        subst this; exact hc1.2⟩
  · have e := until_eq l d k hk.1 hk.2 fun h => by
      simp only [Bool.and_eq_false_iff, decide_eq_false_iff_not] at hc1
      rcases hc1 with hc1 | hc1 <;> omega
    have e2 := until_len l d
    refine good_run 2 (obs := []) (by kernel_rfl) trivial ?_
    refine good_leaveJ (by kernel_rfl) ?_
    refine good_run 10 (obs := [(6 : Nat) = (6 : Nat) ∧ (0 : Int) ≤ (0 : Int) ∧ (0 : Int) ≤ (↑k : Int) ∧ (↑k : Int) ≤ (↑(List.length l) : Int)]) (by kernel_rfl) (by (first | omega | assumption | exact ⟨rfl, trivial⟩ | simp only [AllP, inK_iff, roomOK_iff, decide_eq_true_eq, Bool.and_eq_true, Bool.or_eq_true, Bool.not_eq_true', decide_eq_false_iff_not, and_true, true_and]; (first | omega | (and_intros <;> intros <;> (try and_intros) <;> first | omega | assumption | exact trivial)))) ?_
    refine good_fin [k - (0 : Nat) = List.length (untilL l d) ∧ ∀ (i : Nat), i < k - (0 : Nat) → (fun i => (fun i => Move.cells (List.getD l i default)) (Int.toNat (0 : Int) + i)) i = (fun i => Move.cells (List.getD (untilL l d) i default)) i] (by kernel_rfl) ⟨?_, trivial⟩
    rw [Nat.sub_zero]
    refine ⟨e.symm, fun i hi => ?_⟩
    show (l.getD (0 + i) default).cells = ((untilL l d).getD i default).cells
    rw [Nat.zero_add, e2, e, getD_take _ _ _ hi]
end Go.Sx.T
