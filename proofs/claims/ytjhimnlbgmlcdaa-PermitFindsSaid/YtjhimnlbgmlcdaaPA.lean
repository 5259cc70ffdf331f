/- Contracts of functions of the program, each proved by running its code symbolically (PA). -/
import Derived.Test.YtjhimnlbgmlcdaaSx4
import Derived.Test.YtjhimnlbgmlcdaaPC
namespace Go.Sx.T
open Go Go.Proofs Go.Sx
set_option maxRecDepth 100000
set_option linter.unusedVariables false
set_option linter.unusedSimpArgs false
structure Permit where
  ID : Int
  Reader : Int
  Unit : Int
  Kinds : Int
  From : Int
  Until : Int
  deriving Inhabited, DecidableEq
def Permit.cells (p : Permit) : List SV := [.int .i64 p.ID, .int .i64 p.Reader, .int .i64 p.Unit, .int .i64 p.Kinds, .int .i64 p.From, .int .i64 p.Until]
def Permit.sv (p : Permit) : SV := .agg p.cells
def permits (l : List Permit) : SV := .lst 6 l.length fun i => (l.getD i default).cells
def ints (l : List Int) : SV := .lst 1 l.length fun i => [.int .i64 (l.getD i 0)]
def idB (n : Int) : Bool := decide (1 ≤ n) && decide (n ≤ 1073741824)
def formedB (p : Permit) : Bool := idB p.ID && idB p.Reader && idB p.Unit && decide (1 ≤ p.Kinds) && decide (p.Kinds ≤ 7) && decide (0 ≤ p.From) && decide (p.From < p.Until) && decide (p.Until ≤ 1048576)
theorem s50 (n : Int) : Spec Try.prog 50 [.int .i64 n] (.bool (idB n)) := by
  refine spec_of_good mixed Try.func50 F50_ok (by kernel_rfl) ?_
  refine good_run 17 (obs := []) (by kernel_rfl) trivial ?_
  refine good_fin [(decide ((1 : Int) ≤ n) && decide (n ≤ (1073741824 : Int))) = idB n] (by kernel_rfl) ⟨(by rfl), trivial⟩
theorem s40 (p : Permit) : Spec Try.prog 40 [p.sv] (.bool (formedB p)) := by
  refine spec_of_good mixed Try.func40 F40_ok (by kernel_rfl) ?_
  refine good_run 10 (obs := []) (by kernel_rfl) trivial ?_
  refine good_call (c := True) (by kernel_rfl) (fun _ => SVles.refl _) (fun _ => s50 (p.ID)) (by kernel_rfl) ?_
  refine good_run 4 (obs := []) (by kernel_rfl) trivial ?_
  refine good_call (c := idB p.ID = true ∧ True) (by kernel_rfl) (fun _ => SVles.refl _) (fun _ => s50 (p.Reader)) (by kernel_rfl) ?_
  refine good_run 6 (obs := []) (by kernel_rfl) trivial ?_
  refine good_call (c := (idB p.ID && idB p.Reader) = true ∧ True) (by kernel_rfl) (fun _ => SVles.refl _) (fun _ => s50 (p.Unit)) (by kernel_rfl) ?_
  refine good_run 37 (obs := []) (by kernel_rfl) trivial ?_
  refine good_fin [(idB p.ID && idB p.Reader && idB p.Unit && decide ((1 : Int) ≤ p.Kinds) && decide (p.Kinds ≤ (7 : Int)) && decide ((0 : Int) ≤ p.From) && decide (p.From < p.Until) && decide (p.Until ≤ (1048576 : Int))) = formedB p] (by kernel_rfl) ⟨(by rfl), trivial⟩
def prevB (prev : Option Int) (n : Int) : Bool := match prev with | some q => decide (n ≤ q) | none => false
def chk : Option Int → List Permit → Int
  | _, [] => 0
  | prev, p :: r => if formedB p = false then 2 else if prevB prev p.ID = true then 5 else chk (some p.ID) r
def check (l : List Permit) : Int := if 64 < l.length then 8 else chk none l
def prevAt (l : List Permit) (k : Nat) : Option Int := if k = 0 then none else some (l.getD (k - 1) default).ID
theorem chk_step (l : List Permit) (k : Nat) (hk : k < l.length) : chk (prevAt l k) (l.drop k) = if formedB (l.getD k default) = false then 2 else if (decide (0 < (k : Int)) && decide ((l.getD k default).ID ≤ (l.getD (k - 1) default).ID)) = true then 5 else chk (prevAt l (k + 1)) (l.drop (k + 1)) := by
  rw [List.drop_eq_getElem_cons hk, chk]
  have e : l[k] = l.getD k default := by simp [List.getD, hk]
  rw [e]
  rcases Nat.eq_zero_or_pos k with h0 | h0
  · subst h0; simp [prevAt, prevB]
  · have : prevAt l k = some (l.getD (k - 1) default).ID := by simp [prevAt]; omega
    have h1 : prevAt l (k + 1) = some (l.getD k default).ID := by simp [prevAt]
    have h2 : decide (0 < (k : Int)) = true := by simp; omega
    rw [this, h1, h2]; simp [prevB]
theorem s16 (l : List Permit) : Spec Try.prog 16 [permits l] (.int .i64 (check l)) := by
  refine spec_of_good mixed Try.func16 F16_ok (by kernel_rfl) ?_
  refine good_run 13 (obs := []) (by kernel_rfl) trivial ?_
  refine good_cond (decide ((64 : Int) < (↑(List.length l) : Int))) (by kernel_rfl) (fun hc1 => ?_) (fun hc1 => ?_)
  · refine good_run 7 (obs := []) (by kernel_rfl) trivial ?_
    refine good_fin [(8 : Int) = check l] (by kernel_rfl) ⟨?_, trivial⟩
    simp at hc1
    simp [check]; omega
  · have hlen : l.length ≤ 64 := by simp at hc1; omega
    have hc : check l = chk none l := by simp [check]; omega
    refine good_run 10 (obs := []) (by kernel_rfl) trivial ?_
    refine good_loopJ (fun k : Nat => ⟨[(0, .sv (permits l)), (8, .sv (permits l)), (9, .sv (.int .i64 l.length)), (10, .sv (.int .i64 k))], []⟩) (fun k => k ≤ l.length ∧ chk (prevAt l k) (l.drop k) = chk none l) (fun k => l.length - k) (0) [List.length l = List.length l ∧ ∀ (i : Nat), i < List.length l → (fun i => Permit.cells (List.getD l i default)) i = (fun i => Permit.cells (List.getD l i default)) i, List.length l = List.length l ∧ ∀ (i : Nat), i < List.length l → (fun i => Permit.cells (List.getD l i default)) i = (fun i => Permit.cells (List.getD l i default)) i, (↑(List.length l) : Int) = (↑(List.length l) : Int), (0 : Int) = (0 : Int)] (by kernel_rfl) (by kernel_rfl) ⟨⟨rfl, fun _ _ => rfl⟩, ⟨rfl, fun _ _ => rfl⟩, rfl, rfl, trivial⟩ ?_ ?_
    · exact ⟨Nat.zero_le _, by simp [prevAt]⟩
    · intro k hk
      refine good_run 6 (obs := []) (by kernel_rfl) trivial ?_
      refine good_cond (decide ((↑k : Int) < (↑(List.length l) : Int))) (by kernel_rfl) (fun hc2 => ?_) (fun hc2 => ?_)
      · have hlt : k < l.length := by simp at hc2; omega
        have hstep := chk_step l k hlt
        refine good_run 17 (obs := [(6 : Nat) = (6 : Nat) ∧ (0 : Int) ≤ (↑k : Int) ∧ (↑k : Int) < (↑(List.length l) : Int), (0 : Nat) + (6 : Nat) ≤ (6 : Nat), (6 : Nat) = (6 : Nat) ∧ (0 : Nat) + (6 : Nat) ≤ (6 : Nat), (0 : Nat) + (6 : Nat) ≤ (6 : Nat)]) (by kernel_rfl) (by (first | omega | assumption | exact ⟨rfl, trivial⟩ | simp only [AllP, inK_iff, roomOK_iff, decide_eq_true_eq, Bool.and_eq_true, Bool.or_eq_true, Bool.not_eq_true', decide_eq_false_iff_not, and_true, true_and]; (first | omega | (and_intros <;> intros <;> (try and_intros) <;> first | omega | assumption | exact trivial)))) ?_
        refine good_call (c := True) (by kernel_rfl) (fun _ => SVles.refl _) (fun _ => s40 (List.getD l k default)) (by kernel_rfl) ?_
        refine good_run 4 (obs := []) (by kernel_rfl) trivial ?_
        refine good_cond (!formedB (List.getD l k default)) (by kernel_rfl) (fun hc3 => ?_) (fun hc3 => ?_)
        · refine good_run 9 (obs := []) (by kernel_rfl) trivial ?_
          refine good_leaveJ (by kernel_rfl) ?_
          refine good_run 2 (obs := []) (by kernel_rfl) trivial ?_
          refine good_fin [(2 : Int) = check l] (by kernel_rfl) ⟨?_, trivial⟩
          simp at hc3
          rw [hc, ← hk.2, hstep]; simp [hc3]
        · have e1 : ((k : Int) - 1).toNat = k - 1 := by omega
          have hf : formedB (l.getD k default) = true := by cases h : formedB (l.getD k default) <;> simp_all
          refine good_run 18 (obs := [decide ((0 : Int) < (↑k : Int)) = true ∧ True → InK IntKind.i64 ((↑k : Int) - (1 : Int)), decide ((0 : Int) < (↑k : Int)) = true ∧ True → (6 : Nat) = (6 : Nat) ∧ (0 : Int) ≤ (↑k : Int) - (1 : Int) ∧ (↑k : Int) - (1 : Int) < (↑(List.length l) : Int)]) (by kernel_rfl) (by (first | omega | assumption | exact ⟨rfl, trivial⟩ | simp only [AllP, inK_iff, roomOK_iff, decide_eq_true_eq, Bool.and_eq_true, Bool.or_eq_true, Bool.not_eq_true', decide_eq_false_iff_not, and_true, true_and]; (first | omega | (and_intros <;> intros <;> (try and_intros) <;> first | omega | assumption | exact trivial)))) ?_
          refine good_cond (decide ((0 : Int) < (↑k : Int)) && decide ((List.getD l k default).ID ≤ (List.getD l (Int.toNat ((↑k : Int) - (1 : Int))) default).ID)) (by kernel_rfl) (fun hc4 => ?_) (fun hc4 => ?_)
          · refine good_run 9 (obs := []) (by kernel_rfl) trivial ?_
            refine good_leaveJ (by kernel_rfl) ?_
            refine good_run 2 (obs := []) (by kernel_rfl) trivial ?_
            refine good_fin [(5 : Int) = check l] (by kernel_rfl) ⟨?_, trivial⟩
            rw [e1] at hc4
            rw [hc, ← hk.2, hstep, hf, hc4]; rfl
          · refine good_run 8 (obs := [InK IntKind.i64 ((↑k : Int) + (1 : Int))]) (by kernel_rfl) (by (first | omega | assumption | exact ⟨rfl, trivial⟩ | simp only [AllP, inK_iff, roomOK_iff, decide_eq_true_eq, Bool.and_eq_true, Bool.or_eq_true, Bool.not_eq_true', decide_eq_false_iff_not, and_true, true_and]; (first | omega | (and_intros <;> intros <;> (try and_intros) <;> first | omega | assumption | exact trivial)))) ?_
            refine good_backJ (k + 1) [List.length l = List.length l ∧ ∀ (i : Nat), i < List.length l → (fun i => Permit.cells (List.getD l i default)) i = (fun i => Permit.cells (List.getD l i default)) i, List.length l = List.length l ∧ ∀ (i : Nat), i < List.length l → (fun i => Permit.cells (List.getD l i default)) i = (fun i => Permit.cells (List.getD l i default)) i, (↑(List.length l) : Int) = (↑(List.length l) : Int), (↑k : Int) + (1 : Int) = (↑(k + (1 : Nat)) : Int)] (by kernel_rfl) (by kernel_rfl) ⟨⟨rfl, fun _ _ => rfl⟩, ⟨rfl, fun _ _ => rfl⟩, rfl, (by omega), trivial⟩ ?_ ?_
            · rw [e1] at hc4
              rw [hf, hc4] at hstep
              exact ⟨by omega, by rw [← hk.2, hstep]; rfl⟩
            · show _ < _; omega
      · refine good_run 2 (obs := []) (by kernel_rfl) trivial ?_
        refine good_leaveJ (by kernel_rfl) ?_
        refine good_run 7 (obs := []) (by kernel_rfl) trivial ?_
        refine good_fin [(0 : Int) = check l] (by kernel_rfl) ⟨?_, trivial⟩
        have : k = l.length := by simp at hc2; omega
        subst this
        rw [hc, ← hk.2]; simp [chk]
def inB (l : List Int) (n : Int) : Bool := decide (n ∈ l)
theorem s49 (a b : Int) : Spec Try.prog 49 [.agg [.int .i64 a, .int .i64 b]] (.bool (decide (0 ≤ a) && decide (a < b) && decide (b ≤ 1048576))) := by
  refine spec_of_good mixed Try.func49 F49_ok (by kernel_rfl) ?_
  refine good_run 27 (obs := []) (by kernel_rfl) trivial ?_
  refine good_fin [(decide ((0 : Int) ≤ a) && decide (a < b) && decide (b ≤ (1048576 : Int))) = (decide ((0 : Int) ≤ a) && decide (a < b) && decide (b ≤ (1048576 : Int)))] (by kernel_rfl) ⟨rfl, trivial⟩
theorem s38 (p : Permit) : Spec Try.prog 38 [p.sv] (.bool (formedB p)) := by
  refine spec_of_good mixed Try.func38 F38_ok (by kernel_rfl) ?_
  refine good_run 50 (obs := [(decide ((1 : Int) ≤ p.ID) && decide (p.ID ≤ (1073741824 : Int)) && decide ((1 : Int) ≤ p.Reader) && decide (p.Reader ≤ (1073741824 : Int)) && decide ((1 : Int) ≤ p.Unit) && decide (p.Unit ≤ (1073741824 : Int)) && decide ((1 : Int) ≤ p.Kinds) && decide (p.Kinds ≤ (7 : Int))) = true ∧ True → (4 : Nat) + (2 : Nat) ≤ (6 : Nat)]) (by kernel_rfl) (by (first | omega | assumption | exact ⟨rfl, trivial⟩ | simp only [AllP, inK_iff, roomOK_iff, decide_eq_true_eq, Bool.and_eq_true, Bool.or_eq_true, Bool.not_eq_true', decide_eq_false_iff_not, and_true, true_and]; (first | omega | (and_intros <;> intros <;> (try and_intros) <;> first | omega | assumption | exact trivial)))) ?_
  refine good_call (c := (decide ((1 : Int) ≤ p.ID) && decide (p.ID ≤ (1073741824 : Int)) && decide ((1 : Int) ≤ p.Reader) && decide (p.Reader ≤ (1073741824 : Int)) && decide ((1 : Int) ≤ p.Unit) && decide (p.Unit ≤ (1073741824 : Int)) && decide ((1 : Int) ≤ p.Kinds) && decide (p.Kinds ≤ (7 : Int))) = true ∧ True) (by kernel_rfl) (fun _ => SVles.refl _) (fun _ => s49 (p.From) (p.Until)) (by kernel_rfl) ?_
  refine good_run 6 (obs := []) (by kernel_rfl) trivial ?_
  refine good_fin [(decide ((1 : Int) ≤ p.ID) && decide (p.ID ≤ (1073741824 : Int)) && decide ((1 : Int) ≤ p.Reader) && decide (p.Reader ≤ (1073741824 : Int)) && decide ((1 : Int) ≤ p.Unit) && decide (p.Unit ≤ (1073741824 : Int)) && decide ((1 : Int) ≤ p.Kinds) && decide (p.Kinds ≤ (7 : Int)) && (decide ((0 : Int) ≤ p.From) && decide (p.From < p.Until) && decide (p.Until ≤ (1048576 : Int)))) = formedB p] (by kernel_rfl) ⟨?_, trivial⟩
  simp only [formedB, idB, Bool.and_assoc]
end Go.Sx.T
