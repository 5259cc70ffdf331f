/- Contracts of functions of the program, each proved by running its code symbolically (CA). -/
import Derived.Test.YteecckjnbeambaaSx4
import Derived.Test.YteecckjnbeambaaCC
namespace Go.Sx.T
open Go Go.Proofs Go.Sx
set_option maxRecDepth 100000
set_option maxHeartbeats 4000000
set_option linter.unusedVariables false
set_option linter.unusedSimpArgs false
structure Place where
  Kind : Int
  Of : Int
  deriving Inhabited, DecidableEq
def Place.cells (p : Place) : List SV := [.int .i64 p.Kind, .int .i64 p.Of]
def Place.sv (p : Place) : SV := .agg p.cells
def places (l : List Place) : SV := .lst 2 l.length fun i => (l.getD i default).cells
structure Move where
  Day : Int
  Box : Int
  From : Place
  To : Place
  deriving Inhabited, DecidableEq
def Move.cells (m : Move) : List SV := [.int .i64 m.Day, .int .i64 m.Box, .int .i64 m.From.Kind, .int .i64 m.From.Of, .int .i64 m.To.Kind, .int .i64 m.To.Of]
def Move.sv (m : Move) : SV := .agg m.cells
def moves (l : List Move) : SV := .lst 6 l.length fun i => (l.getD i default).cells
structure Span where
  From : Int
  Until : Int
  deriving Inhabited, DecidableEq
def Span.cells (p : Span) : List SV := [.int .i64 p.From, .int .i64 p.Until]
def Span.sv (p : Span) : SV := .agg p.cells
def spans (l : List Span) : SV := .lst 2 l.length fun i => (l.getD i default).cells
def ints (l : List Int) : SV := .lst 1 l.length fun i => [.int .i64 (l.getD i 0)]
theorem s13 (n : Nat) (get : Nat → List SV) (h : n ≤ 100000) : SpecOwn Try.prog 13 [.lst 6 n get] 26 6 n get := by
  refine specOwn_of_good mixed Try.func13 F13_ok (by kernel_rfl) ?_
  refine good_run 9 (obs := []) (by kernel_rfl) trivial ?_
  refine good_nil (n) (by kernel_rfl) (fun hc1b hc1 => ?_)
  refine good_run 2 (obs := []) (by kernel_rfl) trivial ?_
  refine good_cond (false ^^ hc1b) (by kernel_rfl) (fun hc2 => ?_) (fun hc2 => ?_)
  · cases hc1b <;> simp at hc2
    refine good_run 7 (obs := []) (by kernel_rfl) trivial ?_
    refine good_finOwn [n = (0 : Nat)] (by kernel_rfl) ⟨?_, trivial⟩
    exact hc1 rfl
  · cases hc1b <;> simp at hc2
    refine good_run 10 (obs := [(26 : Nat) = (26 : Nat) ∧ (6 : Nat) = (6 : Nat) ∧ (6 : Nat) = (6 : Nat) ∧ roomOK ((0 : Nat) + n) (48 : Nat)]) (by kernel_rfl) (by (first | omega | assumption | exact ⟨rfl, trivial⟩ | exact ⟨rfl, rfl, trivial⟩ | exact ⟨rfl, rfl, rfl, rfl, rfl, trivial⟩ | simp only [AllP, inK_iff, roomOK_iff, decide_eq_true_eq, Bool.and_eq_true, Bool.or_eq_true, Bool.not_eq_true', decide_eq_false_iff_not, and_true, true_and]; (first | omega | (and_intros <;> intros <;> (try and_intros) <;> first | omega | assumption | exact trivial)))) ?_
    refine good_finOwn [(0 : Nat) + n = n ∧ ∀ (j : Nat), j < n → joinGet (0 : Nat) (cutRows (6 : Nat) []) get j = get j] (by kernel_rfl) ⟨?_, trivial⟩
    exact ⟨by omega, fun j _ => rfl⟩
theorem s69 (l : List Move) (f : FuncId) (caps : List SV) (g : Move → Bool) (h : ∀ p : Move, Spec Try.prog f (Move.sv p :: caps) (.bool (g p))) : Spec Try.prog 69 [moves l, .fn f caps] (.int .i64 (findI l g)) := by
  refine spec_len 0 rfl (hasBody_of_slim Try.func69 F69_ok) fun hlen => ?_
  refine spec_of_good mixed Try.func69 F69_ok (by kernel_rfl) ?_
  refine good_run 14 (obs := []) (by kernel_rfl) trivial ?_
  refine good_loopJ (fun k : Nat => ⟨[(1, .sv (.fn f caps)), (0, .sv (moves l)), (6, .sv (moves l)), (7, .sv (.int .i64 l.length)), (8, .sv (.int .i64 k))], []⟩) (fun k => k ≤ l.length ∧ ∀ j, j < k → g (l.getD j default) = false) (fun k => l.length - k) (0) [SVle (SV.fn f caps) (SV.fn f caps), List.length l = List.length l ∧ ∀ (i : Nat), i < List.length l → (fun i => Move.cells (List.getD l i default)) i = (fun i => Move.cells (List.getD l i default)) i, List.length l = List.length l ∧ ∀ (i : Nat), i < List.length l → (fun i => Move.cells (List.getD l i default)) i = (fun i => Move.cells (List.getD l i default)) i, (↑(List.length l) : Int) = (↑(List.length l) : Int), (0 : Int) = (0 : Int)] (by kernel_rfl) (by kernel_rfl) ⟨SVle.refl _, ⟨rfl, fun _ _ => rfl⟩, ⟨rfl, fun _ _ => rfl⟩, rfl, rfl, trivial⟩ ?_ ?_
  · exact ⟨Nat.zero_le _, by simp⟩
  · intro k hk
    refine good_run 6 (obs := []) (by kernel_rfl) trivial ?_
    refine good_cond (decide ((↑k : Int) < (↑(List.length l) : Int))) (by kernel_rfl) (fun hc1 => ?_) (fun hc1 => ?_)
    · have hlt : k < l.length := by simp at hc1; omega
      refine good_run 16 (obs := [(6 : Nat) = (6 : Nat) ∧ (0 : Int) ≤ (↑k : Int) ∧ (↑k : Int) < (↑(List.length l) : Int), (0 : Nat) + (6 : Nat) ≤ (6 : Nat)]) (by kernel_rfl) (by (first | omega | assumption | exact ⟨rfl, trivial⟩ | exact ⟨rfl, rfl, trivial⟩ | exact ⟨rfl, rfl, rfl, rfl, rfl, trivial⟩ | simp only [AllP, inK_iff, roomOK_iff, decide_eq_true_eq, Bool.and_eq_true, Bool.or_eq_true, Bool.not_eq_true', decide_eq_false_iff_not, and_true, true_and]; (first | omega | (and_intros <;> intros <;> (try and_intros) <;> first | omega | assumption | exact trivial)))) ?_
      refine good_call (c := True) (by kernel_rfl) (fun _ => SVles.refl _) (fun _ => h (l.getD k default)) (by kernel_rfl) ?_
      refine good_run 2 (obs := []) (by kernel_rfl) trivial ?_
      refine good_cond (g (List.getD l k default)) (by kernel_rfl) (fun hc2 => ?_) (fun hc2 => ?_)
      · refine good_run 9 (obs := []) (by kernel_rfl) trivial ?_
        refine good_leaveJ (by kernel_rfl) ?_
        refine good_run 2 (obs := []) (by kernel_rfl) trivial ?_
        refine good_fin [(↑k : Int) = findI l g] (by kernel_rfl) ⟨?_, trivial⟩
        rw [findI_hit l g k hlt hc2 hk.2]
      · refine good_run 7 (obs := [InK IntKind.i64 ((↑k : Int) + (1 : Int))]) (by kernel_rfl) (by (first | omega | assumption | exact ⟨rfl, trivial⟩ | exact ⟨rfl, rfl, trivial⟩ | exact ⟨rfl, rfl, rfl, rfl, rfl, trivial⟩ | simp only [AllP, inK_iff, roomOK_iff, decide_eq_true_eq, Bool.and_eq_true, Bool.or_eq_true, Bool.not_eq_true', decide_eq_false_iff_not, and_true, true_and]; (first | omega | (and_intros <;> intros <;> (try and_intros) <;> first | omega | assumption | exact trivial)))) ?_
        refine good_backJ (k + 1) [SVle (SV.fn f caps) (SV.fn f caps), List.length l = List.length l ∧ ∀ (i : Nat), i < List.length l → (fun i => Move.cells (List.getD l i default)) i = (fun i => Move.cells (List.getD l i default)) i, List.length l = List.length l ∧ ∀ (i : Nat), i < List.length l → (fun i => Move.cells (List.getD l i default)) i = (fun i => Move.cells (List.getD l i default)) i, (↑(List.length l) : Int) = (↑(List.length l) : Int), (↑k : Int) + (1 : Int) = (↑(k + (1 : Nat)) : Int)] (by kernel_rfl) (by kernel_rfl) ⟨SVle.refl _, ⟨rfl, fun _ _ => rfl⟩, ⟨rfl, fun _ _ => rfl⟩, rfl, (by omega), trivial⟩ ?_ ?_
        · refine ⟨by omega, fun j hj => ?_⟩
          rcases Nat.lt_or_ge j k with h | h
          · exact hk.2 j h
          · have : j = k := by omega
            subst this
            exact hc2
        · show _ < _; omega
    · refine good_run 2 (obs := []) (by kernel_rfl) trivial ?_
      refine good_leaveJ (by kernel_rfl) ?_
      refine good_run 7 (obs := []) (by kernel_rfl) trivial ?_
      refine good_fin [(-1 : Int) = findI l g] (by kernel_rfl) ⟨?_, trivial⟩
      have : k = l.length := by simp at hc1; omega
      subst this
      rw [findI_none l g hk.2]
def okId (n : Int) : Bool := decide (1 ≤ n) && decide (n ≤ 1073741824)
def okDay (n : Int) : Bool := decide (0 ≤ n) && decide (n ≤ 1048575)
/-- A place has its form. -/
def placed (p : Place) : Bool := if p.Kind = 1 ∨ p.Kind = 3 then okId p.Of else (decide (p.Kind = 0) || decide (p.Kind = 2) || decide (p.Kind = 4)) && decide (p.Of = 0)
theorem s37 (n : Int) : Spec Try.prog 37 [.int .i64 n] (.bool (okId n)) := by
  refine spec_of_good mixed Try.func37 F37_ok (by kernel_rfl) ?_
  refine good_run 17 (obs := []) (by kernel_rfl) trivial ?_
  refine good_fin [(decide ((1 : Int) ≤ n) && decide (n ≤ (1073741824 : Int))) = okId n] (by kernel_rfl) ⟨(by rfl), trivial⟩
theorem s38 (n : Int) : Spec Try.prog 38 [.int .i64 n] (.bool (okDay n)) := by
  refine spec_of_good mixed Try.func38 F38_ok (by kernel_rfl) ?_
  refine good_run 17 (obs := []) (by kernel_rfl) trivial ?_
  refine good_fin [(decide ((0 : Int) ≤ n) && decide (n ≤ (1048575 : Int))) = okDay n] (by kernel_rfl) ⟨(by rfl), trivial⟩
theorem s42 (a b : Int) : Spec Try.prog 42 [.agg [.int .i64 a, .int .i64 b]] (.bool (placed ⟨a, b⟩)) := by
  refine spec_of_good mixed Try.func42 F42_ok (by kernel_rfl) ?_
  have e1 : (a = 0 ∨ a = 2 ∨ a = 4) → placed ⟨a, b⟩ = decide (b = 0) := fun h => by
    have : ¬ (a = 1 ∨ a = 3) := by omega
    show (if a = 1 ∨ a = 3 then _ else _) = _
    rw [if_neg this]
    rcases h with h | h | h <;> subst h <;> rfl
  have e2 : (a = 1 ∨ a = 3) → placed ⟨a, b⟩ = okId b := fun h => if_pos h
  have e3 : ¬ (a = 0 ∨ a = 2 ∨ a = 4) → ¬ (a = 1 ∨ a = 3) → placed ⟨a, b⟩ = false := fun h h' => by
    show (if a = 1 ∨ a = 3 then _ else _) = _
    rw [if_neg h', decide_eq_false (fun e => h (.inl e)), decide_eq_false (fun e => h (.inr (.inl e))), decide_eq_false (fun e => h (.inr (.inr e)))]
    rfl
  refine good_run 21 (obs := []) (by kernel_rfl) trivial ?_
  refine good_cond (decide (a = (0 : Int))) (by kernel_rfl) (fun hc1 => ?_) (fun hc1 => ?_)
  · simp only [decide_eq_true_eq] at hc1
    rw [e1 (.inl hc1)]
    refine good_run 1 (obs := []) (by kernel_rfl) trivial ?_
    refine good_cond (decide (a = (0 : Int))) (by kernel_rfl) (fun hc2 => ?_) (fun hc2 => ?_)
    · refine good_run 11 (obs := []) (by kernel_rfl) trivial ?_
      refine good_fin [decide (b = (0 : Int)) = decide (b = (0 : Int))] (by kernel_rfl) ⟨rfl, trivial⟩
    · exfalso; simp [hc1] at hc2
  · simp only [decide_eq_false_iff_not] at hc1
    refine good_run 6 (obs := []) (by kernel_rfl) trivial ?_
    refine good_cond (decide (a = (2 : Int))) (by kernel_rfl) (fun hc2 => ?_) (fun hc2 => ?_)
    · simp only [decide_eq_true_eq] at hc2
      rw [e1 (.inr (.inl hc2))]
      refine good_run 1 (obs := []) (by kernel_rfl) trivial ?_
      refine good_cond (decide (a = (2 : Int))) (by kernel_rfl) (fun hc3 => ?_) (fun hc3 => ?_)
      · refine good_run 11 (obs := []) (by kernel_rfl) trivial ?_
        refine good_fin [decide (b = (0 : Int)) = decide (b = (0 : Int))] (by kernel_rfl) ⟨rfl, trivial⟩
      · exfalso; simp [hc2] at hc3
    · simp only [decide_eq_false_iff_not] at hc2
      refine good_run 5 (obs := []) (by kernel_rfl) trivial ?_
      refine good_cond (decide (a = (4 : Int))) (by kernel_rfl) (fun hc3 => ?_) (fun hc3 => ?_)
      · simp only [decide_eq_true_eq] at hc3
        rw [e1 (.inr (.inr hc3))]
        refine good_run 11 (obs := []) (by kernel_rfl) trivial ?_
        refine good_fin [decide (b = (0 : Int)) = decide (b = (0 : Int))] (by kernel_rfl) ⟨rfl, trivial⟩
      · simp only [decide_eq_false_iff_not] at hc3
        refine good_run 7 (obs := []) (by kernel_rfl) trivial ?_
        refine good_cond (decide (a = (1 : Int))) (by kernel_rfl) (fun hc4 => ?_) (fun hc4 => ?_)
        · simp only [decide_eq_true_eq] at hc4
          rw [e2 (.inl hc4)]
          refine good_run 1 (obs := []) (by kernel_rfl) trivial ?_
          refine good_cond (decide (a = (1 : Int))) (by kernel_rfl) (fun hc5 => ?_) (fun hc5 => ?_)
          · refine good_run 4 (obs := []) (by kernel_rfl) trivial ?_
            refine good_call (c := True) (by kernel_rfl) (fun _ => SVles.refl _) (fun _ => s37 (b)) (by kernel_rfl) ?_
            refine good_run 6 (obs := []) (by kernel_rfl) trivial ?_
            refine good_fin [okId b = okId b] (by kernel_rfl) ⟨rfl, trivial⟩
          · exfalso; simp [hc4] at hc5
        · simp only [decide_eq_false_iff_not] at hc4
          refine good_run 5 (obs := []) (by kernel_rfl) trivial ?_
          refine good_cond (decide (a = (3 : Int))) (by kernel_rfl) (fun hc5 => ?_) (fun hc5 => ?_)
          · simp only [decide_eq_true_eq] at hc5
            rw [e2 (.inr hc5)]
            refine good_run 4 (obs := []) (by kernel_rfl) trivial ?_
            refine good_call (c := True) (by kernel_rfl) (fun _ => SVles.refl _) (fun _ => s37 (b)) (by kernel_rfl) ?_
            refine good_run 6 (obs := []) (by kernel_rfl) trivial ?_
            refine good_fin [okId b = okId b] (by kernel_rfl) ⟨rfl, trivial⟩
          · simp only [decide_eq_false_iff_not] at hc5
            rw [e3 (by omega) (by omega)]
            refine good_run 8 (obs := []) (by kernel_rfl) trivial ?_
            refine good_fin [false = false] (by kernel_rfl) ⟨rfl, trivial⟩
theorem eq24 : EqOK Try.prog 24 2 := eqOK_flat 5 (by decide) (by kernel_rfl) ⟨_, Try.underlying24⟩ (by kernel_rfl)
end Go.Sx.T
