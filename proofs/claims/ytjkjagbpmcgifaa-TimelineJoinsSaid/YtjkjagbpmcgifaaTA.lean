/- Contracts of functions of the program, each proved by running its code symbolically (TA). -/
import Derived.Test.YtjkjagbpmcgifaaSx4
import Derived.Test.YtjkjagbpmcgifaaTC
namespace Go.Sx.T
open Go Go.Proofs Go.Sx
set_option maxRecDepth 100000
set_option maxHeartbeats 4000000
set_option linter.unusedVariables false
set_option linter.unusedSimpArgs false
structure Piece where
  From : Int
  Until : Int
  Value : Int
  deriving Inhabited, DecidableEq
def Piece.cells (p : Piece) : List SV := [.int .i64 p.From, .int .i64 p.Until, .int .i64 p.Value]
def Piece.sv (p : Piece) : SV := .agg p.cells
def pieces (l : List Piece) : SV := .lst 3 l.length fun i => (l.getD i default).cells
structure Span where
  From : Int
  Until : Int
  deriving Inhabited, DecidableEq
def Span.cells (p : Span) : List SV := [.int .i64 p.From, .int .i64 p.Until]
def Span.sv (p : Span) : SV := .agg p.cells
def spans (l : List Span) : SV := .lst 2 l.length fun i => (l.getD i default).cells
def ints (l : List Int) : SV := .lst 1 l.length fun i => [.int .i64 (l.getD i 0)]
theorem s35 (n : Nat) (get : Nat → List SV) (h : n ≤ 100000) : SpecOwn Try.prog 35 [.lst 3 n get] 47 3 n get := by
  refine specOwn_of_good mixed Try.func35 F35_ok (by kernel_rfl) ?_
  refine good_run 9 (obs := []) (by kernel_rfl) trivial ?_
  refine good_nil (n) (by kernel_rfl) (fun hc1b hc1 => ?_)
  refine good_run 2 (obs := []) (by kernel_rfl) trivial ?_
  refine good_cond (false ^^ hc1b) (by kernel_rfl) (fun hc2 => ?_) (fun hc2 => ?_)
  · cases hc1b <;> simp at hc2
    refine good_run 7 (obs := []) (by kernel_rfl) trivial ?_
    refine good_finOwn [n = (0 : Nat)] (by kernel_rfl) ⟨?_, trivial⟩
    exact hc1 rfl
  · cases hc1b <;> simp at hc2
    refine good_run 10 (obs := [(47 : Nat) = (47 : Nat) ∧ (3 : Nat) = (3 : Nat) ∧ (3 : Nat) = (3 : Nat) ∧ roomOK ((0 : Nat) + n) (24 : Nat)]) (by kernel_rfl) (by (first | omega | assumption | exact ⟨rfl, trivial⟩ | simp only [AllP, inK_iff, roomOK_iff, decide_eq_true_eq, Bool.and_eq_true, Bool.or_eq_true, Bool.not_eq_true', decide_eq_false_iff_not, and_true, true_and]; (first | omega | (and_intros <;> intros <;> (try and_intros) <;> first | omega | assumption | exact trivial)))) ?_
    refine good_finOwn [(0 : Nat) + n = n ∧ ∀ (j : Nat), j < n → joinGet (0 : Nat) (cutRows (3 : Nat) []) get j = get j] (by kernel_rfl) ⟨?_, trivial⟩
    exact ⟨by omega, fun j _ => rfl⟩
theorem s32 (l : List Piece) (f : FuncId) (caps : List SV) (g : Piece → Bool) (h : ∀ p : Piece, Spec Try.prog f (Piece.sv p :: caps) (.bool (g p))) : Spec Try.prog 32 [pieces l, .fn f caps] (.int .i64 (findI l g)) := by
  refine spec_len 0 rfl (hasBody_of_slim Try.func32 F32_ok) fun hlen => ?_
  refine spec_of_good mixed Try.func32 F32_ok (by kernel_rfl) ?_
  refine good_run 14 (obs := []) (by kernel_rfl) trivial ?_
  refine good_loopJ (fun k : Nat => ⟨[(1, .sv (.fn f caps)), (0, .sv (pieces l)), (6, .sv (pieces l)), (7, .sv (.int .i64 l.length)), (8, .sv (.int .i64 k))], []⟩) (fun k => k ≤ l.length ∧ ∀ j, j < k → g (l.getD j default) = false) (fun k => l.length - k) (0) [SVle (SV.fn f caps) (SV.fn f caps), List.length l = List.length l ∧ ∀ (i : Nat), i < List.length l → (fun i => Piece.cells (List.getD l i default)) i = (fun i => Piece.cells (List.getD l i default)) i, List.length l = List.length l ∧ ∀ (i : Nat), i < List.length l → (fun i => Piece.cells (List.getD l i default)) i = (fun i => Piece.cells (List.getD l i default)) i, (↑(List.length l) : Int) = (↑(List.length l) : Int), (0 : Int) = (0 : Int)] (by kernel_rfl) (by kernel_rfl) ⟨SVle.refl _, ⟨rfl, fun _ _ => rfl⟩, ⟨rfl, fun _ _ => rfl⟩, rfl, rfl, trivial⟩ ?_ ?_
  · exact ⟨Nat.zero_le _, by simp⟩
  · intro k hk
    refine good_run 6 (obs := []) (by kernel_rfl) trivial ?_
    refine good_cond (decide ((↑k : Int) < (↑(List.length l) : Int))) (by kernel_rfl) (fun hc1 => ?_) (fun hc1 => ?_)
    · have hlt : k < l.length := by simp at hc1; omega
      refine good_run 16 (obs := [(3 : Nat) = (3 : Nat) ∧ (0 : Int) ≤ (↑k : Int) ∧ (↑k : Int) < (↑(List.length l) : Int), (0 : Nat) + (3 : Nat) ≤ (3 : Nat)]) (by kernel_rfl) (by (first | omega | assumption | exact ⟨rfl, trivial⟩ | simp only [AllP, inK_iff, roomOK_iff, decide_eq_true_eq, Bool.and_eq_true, Bool.or_eq_true, Bool.not_eq_true', decide_eq_false_iff_not, and_true, true_and]; (first | omega | (and_intros <;> intros <;> (try and_intros) <;> first | omega | assumption | exact trivial)))) ?_
      refine good_call (c := True) (by kernel_rfl) (fun _ => SVles.refl _) (fun _ => h (l.getD k default)) (by kernel_rfl) ?_
      refine good_run 2 (obs := []) (by kernel_rfl) trivial ?_
      refine good_cond (g (List.getD l k default)) (by kernel_rfl) (fun hc2 => ?_) (fun hc2 => ?_)
      · refine good_run 9 (obs := []) (by kernel_rfl) trivial ?_
        refine good_leaveJ (by kernel_rfl) ?_
        refine good_run 2 (obs := []) (by kernel_rfl) trivial ?_
        refine good_fin [(↑k : Int) = findI l g] (by kernel_rfl) ⟨?_, trivial⟩
        rw [findI_hit l g k hlt hc2 hk.2]
      · refine good_run 7 (obs := [InK IntKind.i64 ((↑k : Int) + (1 : Int))]) (by kernel_rfl) (by (first | omega | assumption | exact ⟨rfl, trivial⟩ | simp only [AllP, inK_iff, roomOK_iff, decide_eq_true_eq, Bool.and_eq_true, Bool.or_eq_true, Bool.not_eq_true', decide_eq_false_iff_not, and_true, true_and]; (first | omega | (and_intros <;> intros <;> (try and_intros) <;> first | omega | assumption | exact trivial)))) ?_
        refine good_backJ (k + 1) [SVle (SV.fn f caps) (SV.fn f caps), List.length l = List.length l ∧ ∀ (i : Nat), i < List.length l → (fun i => Piece.cells (List.getD l i default)) i = (fun i => Piece.cells (List.getD l i default)) i, List.length l = List.length l ∧ ∀ (i : Nat), i < List.length l → (fun i => Piece.cells (List.getD l i default)) i = (fun i => Piece.cells (List.getD l i default)) i, (↑(List.length l) : Int) = (↑(List.length l) : Int), (↑k : Int) + (1 : Int) = (↑(k + (1 : Nat)) : Int)] (by kernel_rfl) (by kernel_rfl) ⟨SVle.refl _, ⟨rfl, fun _ _ => rfl⟩, ⟨rfl, fun _ _ => rfl⟩, rfl, (by omega), trivial⟩ ?_ ?_
        · refine ⟨by omega, fun j hj => ?_⟩
          rcases Nat.lt_or_ge j k with h | h
          · exact hk.2 j h
          · have : j = k := by omega
            subst this
            exact hc2
        · show _ < _; omega
    · refine good_run 2 (obs := []) (by kernel_rfl) trivial ?_
      refine good_leaveJ (by kernel_rfl) ?_
      refine good_run 7 (obs := []) (by kernel_rfl) trivial ?_
      refine good_fin [(-1 : Int) = findI l g] (by kernel_rfl) ⟨?_, trivial⟩
      have : k = l.length := by simp at hc1; omega
      subst this
      rw [findI_none l g hk.2]
def Piece.has (day : Int) (p : Piece) : Bool := decide (p.From ≤ day) && decide (day < p.Until)
def atF (l : List Piece) (day : Int) : Option Int := (l.find? (Piece.has day)).map Piece.Value
def optV (o : Option Int) : Int := o.getD 0
def okV (o : Option Int) : Bool := o.isSome
def okSpan (a b : Int) : Bool := decide (0 ≤ a) && decide (a < b) && decide (b ≤ 1048576)
/-- The fault of a piece, with the one ahead of it. -/
def faultP (prev : Option Piece) (p : Piece) : Int :=
  if okSpan p.From p.Until = false then 2 else match prev with
    | none => 0
    | some q => if p.From < q.Until ∨ (p.From = q.Until ∧ p.Value = q.Value) then 5 else 0
def prevOf (l : List Piece) (k : Nat) : Option Piece := if k = 0 then none else some (l.getD (k - 1) default)
/-- The first fault from an index on. -/
def errP (l : List Piece) : Nat → Nat → Int
  | 0, _ => 0
  | n + 1, k => if faultP (prevOf l k) (l.getD k default) ≠ 0 then faultP (prevOf l k) (l.getD k default) else errP l n (k + 1)
def check (l : List Piece) : Int := if 1024 < l.length then 8 else errP l l.length 0
theorem errP_step (l : List Piece) (k : Nat) (hk : k < l.length) : errP l (l.length - k) k = if faultP (prevOf l k) (l.getD k default) ≠ 0 then faultP (prevOf l k) (l.getD k default) else errP l (l.length - (k + 1)) (k + 1) := by
  rw [show l.length - k = (l.length - (k + 1)) + 1 by omega, errP]
theorem errP_end (l : List Piece) : errP l (l.length - l.length) l.length = 0 := by rw [Nat.sub_self, errP]
def few (l : List Piece) : Bool := decide ((l.length : Int) ≤ 40) || (decide (1024 < (l.length : Int)) && decide ((l.length : Int) ≤ 1034))
theorem s34 (a b : Int) : Spec Try.prog 34 [.agg [.int .i64 a, .int .i64 b]] (.bool (okSpan a b)) := by
  refine spec_of_good mixed Try.func34 F34_ok (by kernel_rfl) ?_
  refine good_run 27 (obs := []) (by kernel_rfl) trivial ?_
  refine good_fin [(decide ((0 : Int) ≤ a) && decide (a < b) && decide (b ≤ (1048576 : Int))) = okSpan a b] (by kernel_rfl) ⟨(by rfl), trivial⟩
theorem s38 (a b : Int) : Spec Try.prog 38 [.agg [.int .i64 a, .int .i64 b]] (.bool (okSpan a b)) := by
  refine spec_of_good mixed Try.func38 F38_ok (by kernel_rfl) ?_
  refine good_run 27 (obs := []) (by kernel_rfl) trivial ?_
  refine good_fin [(decide ((0 : Int) ≤ a) && decide (a < b) && decide (b ≤ (1048576 : Int))) = okSpan a b] (by kernel_rfl) ⟨(by rfl), trivial⟩
theorem s36 (a b d : Int) : Spec Try.prog 36 [.agg [.int .i64 a, .int .i64 b], .int .i64 d] (.bool (decide (a ≤ d) && decide (d < b))) := by
  refine spec_of_good mixed Try.func36 F36_ok (by kernel_rfl) ?_
  refine good_run 22 (obs := []) (by kernel_rfl) trivial ?_
  refine good_fin [(decide (a ≤ d) && decide (d < b)) = (decide (a ≤ d) && decide (d < b))] (by kernel_rfl) ⟨rfl, trivial⟩
theorem s33 (p : Piece) (d : Int) : Spec Try.prog 33 [p.sv, .ref [.int .i64 d] 0] (.bool (p.has d)) := by
  refine spec_of_good mixed Try.func33 F33_ok (by kernel_rfl) ?_
  refine good_run 24 (obs := []) (by kernel_rfl) trivial ?_
  refine good_fin [(decide (p.From ≤ d) && decide (d < p.Until)) = Piece.has d p] (by kernel_rfl) ⟨(by rfl), trivial⟩
theorem s11 (l : List Piece) : Spec Try.prog 11 [pieces l] (.bool (few l)) := by
  refine spec_of_good mixed Try.func11 F11_ok (by kernel_rfl) ?_
  refine good_run 24 (obs := []) (by kernel_rfl) trivial ?_
  refine good_fin [(decide ((↑(List.length l) : Int) ≤ (40 : Int)) || decide ((1024 : Int) < (↑(List.length l) : Int)) && decide ((↑(List.length l) : Int) ≤ (1034 : Int))) = few l] (by kernel_rfl) ⟨(by rfl), trivial⟩
theorem s17 (l : List Piece) (d : Int) : Spec Try.prog 17 [pieces l, .int .i64 d] (.tup [.int .i64 (optV (atF l d)), .bool (okV (atF l d))]) := by
  refine spec_of_good mixed Try.func17 F17_ok (by kernel_rfl) ?_
  refine good_run 11 (obs := []) (by kernel_rfl) trivial ?_
  refine good_call (c := True) (by kernel_rfl) (fun _ => SVles.refl _) (fun _ => s32 l 33 _ (Piece.has d) (fun p => s33 p d)) (by kernel_rfl) ?_
  have hat : atF l d = (l.find? (Piece.has d)).map Piece.Value := rfl
  rcases findI_cases l (Piece.has d) with ⟨e, _, h, _⟩ | ⟨k, hk, e, _, h, _, _⟩
  · rw [e, hat, h]
    refine good_run 10 (obs := []) (by kernel_rfl) trivial ?_
    refine good_cond true (by kernel_rfl) (fun _ => ?_) (fun h => nomatch h)
    refine good_run 8 (obs := []) (by kernel_rfl) trivial ?_
    refine good_fin [(0 : Int) = optV (Option.map Piece.Value none), false = okV (Option.map Piece.Value none)] (by kernel_rfl) ⟨(by rfl), (by rfl), trivial⟩
  · rw [e, hat, h]
    refine good_run 10 (obs := []) (by kernel_rfl) trivial ?_
    refine good_cond (decide ((↑k : Int) < (0 : Int))) (by kernel_rfl) (fun hc1 => ?_) (fun hc1 => ?_)
    · exfalso; simp only [decide_eq_true_eq] at hc1; omega
    · refine good_run 13 (obs := [(3 : Nat) = (3 : Nat) ∧ (0 : Int) ≤ (↑k : Int) ∧ (↑k : Int) < (↑(List.length l) : Int)]) (by kernel_rfl) (by (first | omega | assumption | exact ⟨rfl, trivial⟩ | simp only [AllP, inK_iff, roomOK_iff, decide_eq_true_eq, Bool.and_eq_true, Bool.or_eq_true, Bool.not_eq_true', decide_eq_false_iff_not, and_true, true_and]; (first | omega | (and_intros <;> intros <;> (try and_intros) <;> first | omega | assumption | exact trivial)))) ?_
      refine good_fin [(List.getD l k default).Value = optV (Option.map Piece.Value (some (List.getD l k default))), true = okV (Option.map Piece.Value (some (List.getD l k default)))] (by kernel_rfl) ⟨(by rfl), (by rfl), trivial⟩
theorem s18 (l : List Piece) : Spec Try.prog 18 [pieces l] (.int .i64 (check l)) := by
  refine spec_len 0 rfl (hasBody_of_slim Try.func18 F18_ok) fun hlen => ?_
  refine spec_of_good mixed Try.func18 F18_ok (by kernel_rfl) ?_
  refine good_run 13 (obs := []) (by kernel_rfl) trivial ?_
  refine good_cond (decide ((1024 : Int) < (↑(List.length l) : Int))) (by kernel_rfl) (fun hc1 => ?_) (fun hc1 => ?_)
  · have : check l = 8 := by simp only [decide_eq_true_eq] at hc1; rw [check, if_pos (by omega)]
    rw [this]
    refine good_run 7 (obs := []) (by kernel_rfl) trivial ?_
    refine good_fin [(8 : Int) = (8 : Int)] (by kernel_rfl) ⟨rfl, trivial⟩
  · have hck : check l = errP l l.length 0 := by simp only [decide_eq_false_iff_not] at hc1; rw [check, if_neg (by omega)]
    clear hc1
    refine good_run 10 (obs := []) (by kernel_rfl) trivial ?_
    refine good_loopJ (fun k : Nat => ⟨[(11, .sv (.int .i64 (k))), (10, LV.sv (SV.int IntKind.i64 (↑(List.length l) : Int))), (9, LV.sv (SV.lst (3 : Nat) (List.length l) fun i => Piece.cells (List.getD l i default))), (0, LV.sv (SV.lst (3 : Nat) (List.length l) fun i => Piece.cells (List.getD l i default)))], []⟩) (fun k => k ≤ l.length ∧ check l = errP l (l.length - k) k) (fun k => l.length - k) (0) [(0 : Int) = (0 : Int), (↑(List.length l) : Int) = (↑(List.length l) : Int), List.length l = List.length l ∧ ∀ (i : Nat), i < List.length l → (fun i => Piece.cells (List.getD l i default)) i = (fun i => Piece.cells (List.getD l i default)) i, List.length l = List.length l ∧ ∀ (i : Nat), i < List.length l → (fun i => Piece.cells (List.getD l i default)) i = (fun i => Piece.cells (List.getD l i default)) i] (by kernel_rfl) (by kernel_rfl) ⟨rfl, rfl, ⟨rfl, fun _ _ => rfl⟩, ⟨rfl, fun _ _ => rfl⟩, trivial⟩ ⟨by omega, by omega⟩ ?_
    intro k hk
    refine good_run 6 (obs := []) (by kernel_rfl) trivial ?_
    refine good_cond (decide ((↑k : Int) < (↑(List.length l) : Int))) (by kernel_rfl) (fun hc1 => ?_) (fun hc1 => ?_)
    · have hlt : k < l.length := by simp only [decide_eq_true_eq] at hc1; omega
      have hst := errP_step l k hlt
      refine good_run 18 (obs := [(3 : Nat) = (3 : Nat) ∧ (0 : Int) ≤ (↑k : Int) ∧ (↑k : Int) < (↑(List.length l) : Int), (0 : Nat) + (3 : Nat) ≤ (3 : Nat), (3 : Nat) = (3 : Nat) ∧ (0 : Nat) + (3 : Nat) ≤ (3 : Nat), (0 : Nat) + (2 : Nat) ≤ (3 : Nat)]) (by kernel_rfl) (by (first | omega | assumption | exact ⟨rfl, trivial⟩ | simp only [AllP, inK_iff, roomOK_iff, decide_eq_true_eq, Bool.and_eq_true, Bool.or_eq_true, Bool.not_eq_true', decide_eq_false_iff_not, and_true, true_and]; (first | omega | (and_intros <;> intros <;> (try and_intros) <;> first | omega | assumption | exact trivial)))) ?_
      refine good_call (c := True) (by kernel_rfl) (fun _ => SVles.refl _) (fun _ => s34 ((List.getD l k default).From) ((List.getD l k default).Until)) (by kernel_rfl) ?_
      refine good_run 3 (obs := []) (by kernel_rfl) trivial ?_
      refine good_cond (!okSpan (List.getD l k default).From (List.getD l k default).Until) (by kernel_rfl) (fun hc2 => ?_) (fun hc2 => ?_)
      · simp only [Bool.not_eq_true'] at hc2
        have hf : faultP (prevOf l k) (l.getD k default) = 2 := by unfold faultP; rw [if_pos hc2]
        rw [hf, if_pos (by decide)] at hst
        rw [hk.2, hst]
        refine good_run 9 (obs := []) (by kernel_rfl) trivial ?_
        refine good_leaveJ (by kernel_rfl) ?_
        refine good_run 2 (obs := []) (by kernel_rfl) trivial ?_
        refine good_fin [(2 : Int) = (2 : Int)] (by kernel_rfl) ⟨rfl, trivial⟩
      · simp only [Bool.not_eq_false'] at hc2
        have hf : faultP (prevOf l k) (l.getD k default) = match prevOf l k with
          | none => 0
          | some q => if (l.getD k default).From < q.Until ∨ ((l.getD k default).From = q.Until ∧ (l.getD k default).Value = q.Value) then 5 else 0 := by unfold faultP; rw [if_neg (by rw [hc2]; decide)]
        refine good_run 8 (obs := []) (by kernel_rfl) trivial ?_
        refine good_cond (decide ((↑k : Int) = (0 : Int))) (by kernel_rfl) (fun hc3 => ?_) (fun hc3 => ?_)
        · have hk0 : k = 0 := by simp only [decide_eq_true_eq] at hc3; omega
          subst hk0
          rw [prevOf, if_pos rfl] at hf hst
          rw [hf, if_neg (fun h => h rfl)] at hst
          refine good_run 8 (obs := [InK IntKind.i64 ((0 : Int) + (1 : Int))]) (by kernel_rfl) (by (first | omega | assumption | exact ⟨rfl, trivial⟩ | simp only [AllP, inK_iff, roomOK_iff, decide_eq_true_eq, Bool.and_eq_true, Bool.or_eq_true, Bool.not_eq_true', decide_eq_false_iff_not, and_true, true_and]; (first | omega | (and_intros <;> intros <;> (try and_intros) <;> first | omega | assumption | exact trivial)))) ?_
          refine good_backJ (0 + 1) [(0 : Int) + (1 : Int) = (↑((0 : Nat) + (1 : Nat)) : Int), (↑(List.length l) : Int) = (↑(List.length l) : Int), List.length l = List.length l ∧ ∀ (i : Nat), i < List.length l → (fun i => Piece.cells (List.getD l i default)) i = (fun i => Piece.cells (List.getD l i default)) i, List.length l = List.length l ∧ ∀ (i : Nat), i < List.length l → (fun i => Piece.cells (List.getD l i default)) i = (fun i => Piece.cells (List.getD l i default)) i] (by kernel_rfl) (by kernel_rfl) ⟨(by omega), rfl, ⟨rfl, fun _ _ => rfl⟩, ⟨rfl, fun _ _ => rfl⟩, trivial⟩ (by omega) (by show _ < _; omega)
        · have hk0 : k ≠ 0 := by simp only [decide_eq_false_iff_not] at hc3; omega
          rw [prevOf, if_neg hk0] at hf hst
          have e1 : ((k : Int) - 1).toNat = k - 1 := by omega
          refine good_run 39 (obs := [InK IntKind.i64 ((↑k : Int) - (1 : Int)), (3 : Nat) = (3 : Nat) ∧ (0 : Int) ≤ (↑k : Int) - (1 : Int) ∧ (↑k : Int) - (1 : Int) < (↑(List.length l) : Int), (0 : Nat) + (3 : Nat) ≤ (3 : Nat), (3 : Nat) = (3 : Nat) ∧ (0 : Nat) + (3 : Nat) ≤ (3 : Nat)]) (by kernel_rfl) (by (first | omega | assumption | exact ⟨rfl, trivial⟩ | simp only [AllP, inK_iff, roomOK_iff, decide_eq_true_eq, Bool.and_eq_true, Bool.or_eq_true, Bool.not_eq_true', decide_eq_false_iff_not, and_true, true_and]; (first | omega | (and_intros <;> intros <;> (try and_intros) <;> first | omega | assumption | exact trivial)))) ?_
          refine good_cond (decide ((List.getD l k default).From < (List.getD l (Int.toNat ((↑k : Int) - (1 : Int))) default).Until) || decide ((List.getD l k default).From = (List.getD l (Int.toNat ((↑k : Int) - (1 : Int))) default).Until) && decide ((List.getD l k default).Value = (List.getD l (Int.toNat ((↑k : Int) - (1 : Int))) default).Value)) (by kernel_rfl) (fun hc4 => ?_) (fun hc4 => ?_)
          · have h4 : (l.getD k default).From < (l.getD (k - 1) default).Until ∨ ((l.getD k default).From = (l.getD (k - 1) default).Until ∧ (l.getD k default).Value = (l.getD (k - 1) default).Value) := by
              simpa only [Bool.or_eq_true, Bool.and_eq_true, decide_eq_true_eq, e1] using hc4
            simp only [if_pos h4] at hf
            rw [hf, if_pos (by decide)] at hst
            rw [hk.2, hst]
            refine good_run 8 (obs := []) (by kernel_rfl) trivial ?_
            refine good_leaveJ (by kernel_rfl) ?_
            refine good_run 2 (obs := []) (by kernel_rfl) trivial ?_
            refine good_fin [(5 : Int) = (5 : Int)] (by kernel_rfl) ⟨rfl, trivial⟩
          · have h4 : ¬ ((l.getD k default).From < (l.getD (k - 1) default).Until ∨ ((l.getD k default).From = (l.getD (k - 1) default).Until ∧ (l.getD k default).Value = (l.getD (k - 1) default).Value)) := by
              rw [e1] at hc4
              intro h
              rw [Bool.eq_false_iff] at hc4
              exact hc4 (by simpa only [Bool.or_eq_true, Bool.and_eq_true, decide_eq_true_eq] using h)
            simp only [if_neg h4] at hf
            rw [hf, if_neg (fun h => h rfl)] at hst
            refine good_run 7 (obs := [InK IntKind.i64 ((↑k : Int) + (1 : Int))]) (by kernel_rfl) (by (first | omega | assumption | exact ⟨rfl, trivial⟩ | simp only [AllP, inK_iff, roomOK_iff, decide_eq_true_eq, Bool.and_eq_true, Bool.or_eq_true, Bool.not_eq_true', decide_eq_false_iff_not, and_true, true_and]; (first | omega | (and_intros <;> intros <;> (try and_intros) <;> first | omega | assumption | exact trivial)))) ?_
            refine good_backJ (k + 1) [(↑k : Int) + (1 : Int) = (↑(k + (1 : Nat)) : Int), (↑(List.length l) : Int) = (↑(List.length l) : Int), List.length l = List.length l ∧ ∀ (i : Nat), i < List.length l → (fun i => Piece.cells (List.getD l i default)) i = (fun i => Piece.cells (List.getD l i default)) i, List.length l = List.length l ∧ ∀ (i : Nat), i < List.length l → (fun i => Piece.cells (List.getD l i default)) i = (fun i => Piece.cells (List.getD l i default)) i] (by kernel_rfl) (by kernel_rfl) ⟨(by omega), rfl, ⟨rfl, fun _ _ => rfl⟩, ⟨rfl, fun _ _ => rfl⟩, trivial⟩ (by omega) (by show _ < _; omega)
    · have : k = l.length := by simp only [decide_eq_false_iff_not] at hc1; have := hk.1; omega
      subst this
      rw [hk.2, errP_end]
      refine good_run 2 (obs := []) (by kernel_rfl) trivial ?_
      refine good_leaveJ (by kernel_rfl) ?_
      refine good_run 7 (obs := []) (by kernel_rfl) trivial ?_
      refine good_fin [(0 : Int) = (0 : Int)] (by kernel_rfl) ⟨rfl, trivial⟩
theorem s23 (l : List Piece) : Spec Try.prog 23 [pieces l] (.int .i64 (check l)) := by
  refine spec_len 0 rfl (hasBody_of_slim Try.func23 F23_ok) fun hlen => ?_
  refine spec_of_good mixed Try.func23 F23_ok (by kernel_rfl) ?_
  refine good_run 13 (obs := []) (by kernel_rfl) trivial ?_
  refine good_cond (decide ((1024 : Int) < (↑(List.length l) : Int))) (by kernel_rfl) (fun hc1 => ?_) (fun hc1 => ?_)
  · have : check l = 8 := by simp only [decide_eq_true_eq] at hc1; rw [check, if_pos (by omega)]
    rw [this]
    refine good_run 7 (obs := []) (by kernel_rfl) trivial ?_
    refine good_fin [(8 : Int) = (8 : Int)] (by kernel_rfl) ⟨rfl, trivial⟩
  · have hck : check l = errP l l.length 0 := by simp only [decide_eq_false_iff_not] at hc1; rw [check, if_neg (by omega)]
    clear hc1
    refine good_run 8 (obs := []) (by kernel_rfl) trivial ?_
    refine good_loopJ (fun k : Nat => ⟨[(3, .sv (.int .i64 (k))), (0, LV.sv (SV.lst (3 : Nat) (List.length l) fun i => Piece.cells (List.getD l i default)))], []⟩) (fun k => k ≤ l.length ∧ check l = errP l (l.length - k) k) (fun k => l.length - k) (0) [(0 : Int) = (0 : Int), List.length l = List.length l ∧ ∀ (i : Nat), i < List.length l → (fun i => Piece.cells (List.getD l i default)) i = (fun i => Piece.cells (List.getD l i default)) i] (by kernel_rfl) (by kernel_rfl) ⟨rfl, ⟨rfl, fun _ _ => rfl⟩, trivial⟩ ⟨by omega, by omega⟩ ?_
    intro k hk
    refine good_run 9 (obs := []) (by kernel_rfl) trivial ?_
    refine good_cond (decide ((↑k : Int) < (↑(List.length l) : Int))) (by kernel_rfl) (fun hc1 => ?_) (fun hc1 => ?_)
    · have hlt : k < l.length := by simp only [decide_eq_true_eq] at hc1; omega
      have hst := errP_step l k hlt
      refine good_run 11 (obs := [(3 : Nat) = (3 : Nat) ∧ (0 : Int) ≤ (↑k : Int) ∧ (↑k : Int) < (↑(List.length l) : Int), (0 : Nat) + (2 : Nat) ≤ (3 : Nat)]) (by kernel_rfl) (by (first | omega | assumption | exact ⟨rfl, trivial⟩ | simp only [AllP, inK_iff, roomOK_iff, decide_eq_true_eq, Bool.and_eq_true, Bool.or_eq_true, Bool.not_eq_true', decide_eq_false_iff_not, and_true, true_and]; (first | omega | (and_intros <;> intros <;> (try and_intros) <;> first | omega | assumption | exact trivial)))) ?_
      refine good_call (c := True) (by kernel_rfl) (fun _ => SVles.refl _) (fun _ => s38 ((List.getD l k default).From) ((List.getD l k default).Until)) (by kernel_rfl) ?_
      refine good_run 3 (obs := []) (by kernel_rfl) trivial ?_
      refine good_cond (!okSpan (List.getD l k default).From (List.getD l k default).Until) (by kernel_rfl) (fun hc2 => ?_) (fun hc2 => ?_)
      · simp only [Bool.not_eq_true'] at hc2
        have hf : faultP (prevOf l k) (l.getD k default) = 2 := by unfold faultP; rw [if_pos hc2]
        rw [hf, if_pos (by decide)] at hst
        rw [hk.2, hst]
        refine good_run 9 (obs := []) (by kernel_rfl) trivial ?_
        refine good_leaveJ (by kernel_rfl) ?_
        refine good_run 2 (obs := []) (by kernel_rfl) trivial ?_
        refine good_fin [(2 : Int) = (2 : Int)] (by kernel_rfl) ⟨rfl, trivial⟩
      · simp only [Bool.not_eq_false'] at hc2
        have hf : faultP (prevOf l k) (l.getD k default) = match prevOf l k with
          | none => 0
          | some q => if (l.getD k default).From < q.Until ∨ ((l.getD k default).From = q.Until ∧ (l.getD k default).Value = q.Value) then 5 else 0 := by unfold faultP; rw [if_neg (by rw [hc2]; decide)]
        have e1 : ((k : Int) - 1).toNat = k - 1 := by omega
        refine good_run 53 (obs := [decide ((0 : Int) < (↑k : Int)) = true ∧ True → (3 : Nat) = (3 : Nat) ∧ (0 : Int) ≤ (↑k : Int) ∧ (↑k : Int) < (↑(List.length l) : Int), decide ((0 : Int) < (↑k : Int)) = true ∧ True → InK IntKind.i64 ((↑k : Int) - (1 : Int)), decide ((0 : Int) < (↑k : Int)) = true ∧ True → (3 : Nat) = (3 : Nat) ∧ (0 : Int) ≤ (↑k : Int) - (1 : Int) ∧ (↑k : Int) - (1 : Int) < (↑(List.length l) : Int), decide ((List.getD l k default).From < (List.getD l (Int.toNat ((↑k : Int) - (1 : Int))) default).Until) = false ∧ decide ((0 : Int) < (↑k : Int)) = true ∧ True → (3 : Nat) = (3 : Nat) ∧ (0 : Int) ≤ (↑k : Int) ∧ (↑k : Int) < (↑(List.length l) : Int), decide ((List.getD l k default).From < (List.getD l (Int.toNat ((↑k : Int) - (1 : Int))) default).Until) = false ∧ decide ((0 : Int) < (↑k : Int)) = true ∧ True → InK IntKind.i64 ((↑k : Int) - (1 : Int)), decide ((List.getD l k default).From < (List.getD l (Int.toNat ((↑k : Int) - (1 : Int))) default).Until) = false ∧ decide ((0 : Int) < (↑k : Int)) = true ∧ True → (3 : Nat) = (3 : Nat) ∧ (0 : Int) ≤ (↑k : Int) - (1 : Int) ∧ (↑k : Int) - (1 : Int) < (↑(List.length l) : Int), decide ((List.getD l k default).From = (List.getD l (Int.toNat ((↑k : Int) - (1 : Int))) default).Until) = true ∧ decide ((List.getD l k default).From < (List.getD l (Int.toNat ((↑k : Int) - (1 : Int))) default).Until) = false ∧ decide ((0 : Int) < (↑k : Int)) = true ∧ True → (3 : Nat) = (3 : Nat) ∧ (0 : Int) ≤ (↑k : Int) ∧ (↑k : Int) < (↑(List.length l) : Int), decide ((List.getD l k default).From = (List.getD l (Int.toNat ((↑k : Int) - (1 : Int))) default).Until) = true ∧ decide ((List.getD l k default).From < (List.getD l (Int.toNat ((↑k : Int) - (1 : Int))) default).Until) = false ∧ decide ((0 : Int) < (↑k : Int)) = true ∧ True → InK IntKind.i64 ((↑k : Int) - (1 : Int)), decide ((List.getD l k default).From = (List.getD l (Int.toNat ((↑k : Int) - (1 : Int))) default).Until) = true ∧ decide ((List.getD l k default).From < (List.getD l (Int.toNat ((↑k : Int) - (1 : Int))) default).Until) = false ∧ decide ((0 : Int) < (↑k : Int)) = true ∧ True → (3 : Nat) = (3 : Nat) ∧ (0 : Int) ≤ (↑k : Int) - (1 : Int) ∧ (↑k : Int) - (1 : Int) < (↑(List.length l) : Int)]) (by kernel_rfl) (by (first | omega | assumption | exact ⟨rfl, trivial⟩ | simp only [AllP, inK_iff, roomOK_iff, decide_eq_true_eq, Bool.and_eq_true, Bool.or_eq_true, Bool.not_eq_true', decide_eq_false_iff_not, and_true, true_and]; (first | omega | (and_intros <;> intros <;> (try and_intros) <;> first | omega | assumption | exact trivial)))) ?_
        refine good_cond (decide ((0 : Int) < (↑k : Int)) && (decide ((List.getD l k default).From < (List.getD l (Int.toNat ((↑k : Int) - (1 : Int))) default).Until) || decide ((List.getD l k default).From = (List.getD l (Int.toNat ((↑k : Int) - (1 : Int))) default).Until) && decide ((List.getD l k default).Value = (List.getD l (Int.toNat ((↑k : Int) - (1 : Int))) default).Value))) (by kernel_rfl) (fun hc3 => ?_) (fun hc3 => ?_)
        · simp only [Bool.and_eq_true, Bool.or_eq_true, decide_eq_true_eq, e1] at hc3
          have hp : prevOf l k = some (l.getD (k - 1) default) := by rw [prevOf, if_neg (by omega)]
          rw [hp] at hf hst
          simp only [if_pos hc3.2] at hf
          rw [hf, if_pos (by decide)] at hst
          rw [hk.2, hst]
          refine good_run 8 (obs := []) (by kernel_rfl) trivial ?_
          refine good_leaveJ (by kernel_rfl) ?_
          refine good_run 2 (obs := []) (by kernel_rfl) trivial ?_
          refine good_fin [(5 : Int) = (5 : Int)] (by kernel_rfl) ⟨rfl, trivial⟩
        · have hf0 : faultP (prevOf l k) (l.getD k default) = 0 := by
            by_cases hk0 : k = 0
            · rw [hf, prevOf, if_pos hk0]
            · rw [hf, prevOf, if_neg hk0]
              simp only
              rw [if_neg]
              intro h
              rw [Bool.eq_false_iff] at hc3
              exact hc3 (by rw [e1]; simpa only [Bool.and_eq_true, Bool.or_eq_true, decide_eq_true_eq] using ⟨(by omega : (0 : Int) < k), h⟩)
          rw [hf0, if_neg (fun h => h rfl)] at hst
          refine good_run 8 (obs := [InK IntKind.i64 ((↑k : Int) + (1 : Int))]) (by kernel_rfl) (by (first | omega | assumption | exact ⟨rfl, trivial⟩ | simp only [AllP, inK_iff, roomOK_iff, decide_eq_true_eq, Bool.and_eq_true, Bool.or_eq_true, Bool.not_eq_true', decide_eq_false_iff_not, and_true, true_and]; (first | omega | (and_intros <;> intros <;> (try and_intros) <;> first | omega | assumption | exact trivial)))) ?_
          refine good_backJ (k + 1) [(↑k : Int) + (1 : Int) = (↑(k + (1 : Nat)) : Int), List.length l = List.length l ∧ ∀ (i : Nat), i < List.length l → (fun i => Piece.cells (List.getD l i default)) i = (fun i => Piece.cells (List.getD l i default)) i] (by kernel_rfl) (by kernel_rfl) ⟨(by omega), ⟨rfl, fun _ _ => rfl⟩, trivial⟩ (by omega) (by show _ < _; omega)
    · have : k = l.length := by simp only [decide_eq_false_iff_not] at hc1; have := hk.1; omega
      subst this
      rw [hk.2, errP_end]
      refine good_run 2 (obs := []) (by kernel_rfl) trivial ?_
      refine good_leaveJ (by kernel_rfl) ?_
      refine good_run 7 (obs := []) (by kernel_rfl) trivial ?_
      refine good_fin [(0 : Int) = (0 : Int)] (by kernel_rfl) ⟨rfl, trivial⟩
theorem atF_hit (l : List Piece) (d : Int) (k : Nat) (hk : k < l.length) (h : Piece.has d (l.getD k default) = true) (hn : ∀ j, j < k → Piece.has d (l.getD j default) = false) : atF l d = some (l.getD k default).Value := by
  rcases findI_cases l (Piece.has d) with ⟨e, _, h2, h3⟩ | ⟨i, hi, e, _, h2, h3, _⟩
  · have := findI_hit l (Piece.has d) k hk h hn
    omega
  · have := findI_hit l (Piece.has d) k hk h hn
    have hik : i = k := by omega
    subst hik
    rw [atF, h2]; rfl
theorem atF_none (l : List Piece) (d : Int) (hn : ∀ j, j < l.length → Piece.has d (l.getD j default) = false) : atF l d = none := by
  rcases findI_cases l (Piece.has d) with ⟨e, _, h2, h3⟩ | ⟨i, hi, e, _, h2, h3, _⟩
  · rw [atF, h2]; rfl
  · rw [hn i hi] at h3; cases h3
theorem s20 (l : List Piece) (d : Int) : Spec Try.prog 20 [pieces l, .int .i64 d] (.tup [.int .i64 (optV (atF l d)), .bool (okV (atF l d))]) := by
  refine spec_len 0 rfl (hasBody_of_slim Try.func20 F20_ok) fun hlen => ?_
  refine spec_of_good mixed Try.func20 F20_ok (by kernel_rfl) ?_
  refine good_run 13 (obs := []) (by kernel_rfl) trivial ?_
  refine good_loopJ (fun k : Nat => ⟨[(6, .sv (.int .i64 (k))), (0, LV.sv (SV.lst (3 : Nat) (List.length l) fun i => Piece.cells (List.getD l i default))), (1, LV.sv (SV.int IntKind.i64 d))], []⟩) (fun k => k ≤ l.length ∧ ∀ j, j < k → Piece.has d (l.getD j default) = false) (fun k => l.length - k) (0) [(0 : Int) = (0 : Int), List.length l = List.length l ∧ ∀ (i : Nat), i < List.length l → (fun i => Piece.cells (List.getD l i default)) i = (fun i => Piece.cells (List.getD l i default)) i, d = d] (by kernel_rfl) (by kernel_rfl) ⟨rfl, ⟨rfl, fun _ _ => rfl⟩, rfl, trivial⟩ ⟨by omega, by omega⟩ ?_
  intro k hk
  refine good_run 9 (obs := []) (by kernel_rfl) trivial ?_
  refine good_cond (decide ((↑k : Int) < (↑(List.length l) : Int))) (by kernel_rfl) (fun hc1 => ?_) (fun hc1 => ?_)
  · have hlt : k < l.length := by simp only [decide_eq_true_eq] at hc1; omega
    refine good_run 11 (obs := [(3 : Nat) = (3 : Nat) ∧ (0 : Int) ≤ (↑k : Int) ∧ (↑k : Int) < (↑(List.length l) : Int), (0 : Nat) + (2 : Nat) ≤ (3 : Nat)]) (by kernel_rfl) (by (first | omega | assumption | exact ⟨rfl, trivial⟩ | simp only [AllP, inK_iff, roomOK_iff, decide_eq_true_eq, Bool.and_eq_true, Bool.or_eq_true, Bool.not_eq_true', decide_eq_false_iff_not, and_true, true_and]; (first | omega | (and_intros <;> intros <;> (try and_intros) <;> first | omega | assumption | exact trivial)))) ?_
    refine good_call (c := True) (by kernel_rfl) (fun _ => SVles.refl _) (fun _ => s36 ((List.getD l k default).From) ((List.getD l k default).Until) (d)) (by kernel_rfl) ?_
    refine good_run 2 (obs := []) (by kernel_rfl) trivial ?_
    refine good_cond (decide ((List.getD l k default).From ≤ d) && decide (d < (List.getD l k default).Until)) (by kernel_rfl) (fun hc2 => ?_) (fun hc2 => ?_)
    · have h : Piece.has d (l.getD k default) = true := hc2
      rw [atF_hit l d k hlt h hk.2]
      refine good_run 14 (obs := [(3 : Nat) = (3 : Nat) ∧ (0 : Int) ≤ (↑k : Int) ∧ (↑k : Int) < (↑(List.length l) : Int)]) (by kernel_rfl) (by (first | omega | assumption | exact ⟨rfl, trivial⟩ | simp only [AllP, inK_iff, roomOK_iff, decide_eq_true_eq, Bool.and_eq_true, Bool.or_eq_true, Bool.not_eq_true', decide_eq_false_iff_not, and_true, true_and]; (first | omega | (and_intros <;> intros <;> (try and_intros) <;> first | omega | assumption | exact trivial)))) ?_
      refine good_leaveJ (by kernel_rfl) ?_
      refine good_run 2 (obs := []) (by kernel_rfl) trivial ?_
      refine good_fin [(List.getD l k default).Value = optV (some (List.getD l k default).Value), true = okV (some (List.getD l k default).Value)] (by kernel_rfl) ⟨(by rfl), (by rfl), trivial⟩
    · have h : Piece.has d (l.getD k default) = false := hc2
      refine good_run 8 (obs := [InK IntKind.i64 ((↑k : Int) + (1 : Int))]) (by kernel_rfl) (by (first | omega | assumption | exact ⟨rfl, trivial⟩ | simp only [AllP, inK_iff, roomOK_iff, decide_eq_true_eq, Bool.and_eq_true, Bool.or_eq_true, Bool.not_eq_true', decide_eq_false_iff_not, and_true, true_and]; (first | omega | (and_intros <;> intros <;> (try and_intros) <;> first | omega | assumption | exact trivial)))) ?_
      refine good_backJ (k + 1) [(↑k : Int) + (1 : Int) = (↑(k + (1 : Nat)) : Int), List.length l = List.length l ∧ ∀ (i : Nat), i < List.length l → (fun i => Piece.cells (List.getD l i default)) i = (fun i => Piece.cells (List.getD l i default)) i, d = d] (by kernel_rfl) (by kernel_rfl) ⟨(by omega), ⟨rfl, fun _ _ => rfl⟩, rfl, trivial⟩ ?_ (by show _ < _; omega)
      exact ⟨hlt, fun j hj => by
        rcases Nat.lt_or_ge j k with h' | h'
        · exact hk.2 j h'
        · have : j = k := by omega
          subst this; exact h⟩
  · have : k = l.length := by simp only [decide_eq_false_iff_not] at hc1; have := hk.1; omega
    subst this
    rw [atF_none l d hk.2]
    refine good_run 2 (obs := []) (by kernel_rfl) trivial ?_
    refine good_leaveJ (by kernel_rfl) ?_
    refine good_run 8 (obs := []) (by kernel_rfl) trivial ?_
    refine good_fin [(0 : Int) = optV none, false = okV none] (by kernel_rfl) ⟨(by rfl), (by rfl), trivial⟩
end Go.Sx.T
