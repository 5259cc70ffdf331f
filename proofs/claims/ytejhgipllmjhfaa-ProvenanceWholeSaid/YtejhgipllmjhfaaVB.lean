/- Contracts of functions of the program, each proved by running its code symbolically (VB). -/
import Derived.Test.YtejhgipllmjhfaaVA
namespace Go.Sx.T
open Go Go.Proofs Go.Sx
set_option maxRecDepth 100000
set_option maxHeartbeats 4000000
set_option linter.unusedVariables false
set_option linter.unusedSimpArgs false
def inI (n lo hi : Int) : Bool := decide (lo ≤ n) && decide (n ≤ hi)
def placedC (c : Came) : Bool := (inI c.Acc 1 1073741824 && inI c.Num 1 9999) || (decide (c.Acc = 0) && decide (c.Num = 0))
def aloneC (c : Came) : Bool := inI c.Unit 1 1073741824 && inI c.Office 0 1073741824 && placedC c
theorem s45 (n a b : Int) : Spec Try.prog 45 [.int .i64 n, .int .i64 a, .int .i64 b] (.bool (inI n a b)) := by
  refine spec_of_good mixed Try.func45 F45_ok (by kernel_rfl) ?_
  refine good_run 19 (obs := []) (by kernel_rfl) trivial ?_
  refine good_fin [(decide (a ≤ n) && decide (n ≤ b)) = inI n a b] (by kernel_rfl) ⟨(by rfl), trivial⟩
theorem s33 (c : Came) : Spec Try.prog 33 [c.sv] (.bool (aloneC c)) := by
  refine spec_of_good mixed Try.func33 F33_ok (by kernel_rfl) ?_
  refine good_run 18 (obs := [(1 : Nat) + (3 : Nat) ≤ (4 : Nat), (3 : Nat) = (3 : Nat) ∧ (0 : Nat) + (3 : Nat) ≤ (3 : Nat)]) (by kernel_rfl) (by (first | omega | assumption | exact ⟨rfl, trivial⟩ | simp only [AllP, inK_iff, roomOK_iff, decide_eq_true_eq, Bool.and_eq_true, Bool.or_eq_true, Bool.not_eq_true', decide_eq_false_iff_not, and_true, true_and]; (first | omega | (and_intros <;> intros <;> (try and_intros) <;> first | omega | assumption | exact trivial)))) ?_
  refine good_call (c := True) (by kernel_rfl) (fun _ => SVles.refl _) (fun _ => s45 (c.Acc) ((1 : Int)) ((1073741824 : Int))) (by kernel_rfl) ?_
  refine good_run 4 (obs := []) (by kernel_rfl) trivial ?_
  refine good_call (c := inI c.Acc (1 : Int) (1073741824 : Int) = true ∧ True) (by kernel_rfl) (fun _ => SVles.refl _) (fun _ => s45 (c.Num) ((1 : Int)) ((9999 : Int))) (by kernel_rfl) ?_
  refine good_run 19 (obs := []) (by kernel_rfl) trivial ?_
  refine good_call (c := True) (by kernel_rfl) (fun _ => SVles.refl _) (fun _ => s45 (c.Unit) ((1 : Int)) ((1073741824 : Int))) (by kernel_rfl) ?_
  refine good_run 4 (obs := []) (by kernel_rfl) trivial ?_
  refine good_call (c := inI c.Unit (1 : Int) (1073741824 : Int) = true ∧ True) (by kernel_rfl) (fun _ => SVles.refl _) (fun _ => s45 (c.Office) ((0 : Int)) ((1073741824 : Int))) (by kernel_rfl) ?_
  refine good_run 9 (obs := []) (by kernel_rfl) trivial ?_
  refine good_fin [(inI c.Unit (1 : Int) (1073741824 : Int) && inI c.Office (0 : Int) (1073741824 : Int) && (inI c.Acc (1 : Int) (1073741824 : Int) && inI c.Num (1 : Int) (9999 : Int) || decide (c.Acc = (0 : Int)) && decide (c.Num = (0 : Int)))) = aloneC c] (by kernel_rfl) ⟨(by rfl), trivial⟩
def sameA (c x : Came) : Bool := decide (x.Acc = c.Acc)
def twiceC (c x : Came) : Bool := sameA c x && decide (x.Num = c.Num)
def otherC (c x : Came) : Bool := sameA c x && !decide (x.Office = c.Office)
def clashC (l : List Came) (c : Came) : Int := if c.Acc = 0 then 0 else if l.any (twiceC c) = true then 6 else if l.any (otherC c) = true then 10 else 0
theorem s62 (x c : Came) : Spec Try.prog 62 [x.sv, .ref c.cells 0] (.bool (sameA c x)) := by
  refine spec_of_good mixed Try.func62 F62_ok (by kernel_rfl) ?_
  refine good_run 19 (obs := []) (by kernel_rfl) trivial ?_
  refine good_fin [decide (x.Acc = c.Acc) = sameA c x] (by kernel_rfl) ⟨(by rfl), trivial⟩
theorem s64 (x c : Came) : Spec Try.prog 64 [x.sv, .ref [.fn 62 [.ref c.cells 0]] 0, .ref c.cells 0] (.bool (twiceC c x)) := by
  refine spec_of_good mixed Try.func64 F64_ok (by kernel_rfl) ?_
  refine good_run 10 (obs := [(0 : Nat) + (4 : Nat) ≤ (4 : Nat)]) (by kernel_rfl) (by (first | omega | assumption | exact ⟨rfl, trivial⟩ | simp only [AllP, inK_iff, roomOK_iff, decide_eq_true_eq, Bool.and_eq_true, Bool.or_eq_true, Bool.not_eq_true', decide_eq_false_iff_not, and_true, true_and]; (first | omega | (and_intros <;> intros <;> (try and_intros) <;> first | omega | assumption | exact trivial)))) ?_
  refine good_call (c := True) (by kernel_rfl) (fun _ => SVles.refl _) (fun _ => s62 (x) (c)) (by kernel_rfl) ?_
  refine good_run 13 (obs := []) (by kernel_rfl) trivial ?_
  refine good_fin [(sameA c x && decide (x.Num = c.Num)) = twiceC c x] (by kernel_rfl) ⟨(by rfl), trivial⟩
theorem s65 (x c : Came) : Spec Try.prog 65 [x.sv, .ref [.fn 62 [.ref c.cells 0]] 0, .ref c.cells 0] (.bool (otherC c x)) := by
  refine spec_of_good mixed Try.func65 F65_ok (by kernel_rfl) ?_
  refine good_run 10 (obs := [(0 : Nat) + (4 : Nat) ≤ (4 : Nat)]) (by kernel_rfl) (by (first | omega | assumption | exact ⟨rfl, trivial⟩ | simp only [AllP, inK_iff, roomOK_iff, decide_eq_true_eq, Bool.and_eq_true, Bool.or_eq_true, Bool.not_eq_true', decide_eq_false_iff_not, and_true, true_and]; (first | omega | (and_intros <;> intros <;> (try and_intros) <;> first | omega | assumption | exact trivial)))) ?_
  refine good_call (c := True) (by kernel_rfl) (fun _ => SVles.refl _) (fun _ => s62 (x) (c)) (by kernel_rfl) ?_
  refine good_run 13 (obs := []) (by kernel_rfl) trivial ?_
  refine good_fin [(sameA c x && !decide (x.Office = c.Office)) = otherC c x] (by kernel_rfl) ⟨(by rfl), trivial⟩
theorem s34 (l : List Came) (c : Came) : Spec Try.prog 34 [cames l, c.sv] (.int .i64 (clashC l c)) := by
  refine spec_of_good mixed Try.func34 F34_ok (by kernel_rfl) ?_
  refine good_run 15 (obs := []) (by kernel_rfl) trivial ?_
  refine good_cond (decide (c.Acc = (0 : Int))) (by kernel_rfl) (fun hc1 => ?_) (fun hc1 => ?_)
  · have e : clashC l c = 0 := by rw [clashC, if_pos (by simpa using hc1)]
    rw [e]
    refine good_run 7 (obs := []) (by kernel_rfl) trivial ?_
    refine good_fin [(0 : Int) = (0 : Int)] (by kernel_rfl) ⟨rfl, trivial⟩
  · have h0 : ¬ c.Acc = 0 := by simpa using hc1
    refine good_run 13 (obs := [(1 : Nat) = (1 : Nat) ∧ (0 : Nat) + (1 : Nat) ≤ (1 : Nat)]) (by kernel_rfl) (by (first | omega | assumption | exact ⟨rfl, trivial⟩ | simp only [AllP, inK_iff, roomOK_iff, decide_eq_true_eq, Bool.and_eq_true, Bool.or_eq_true, Bool.not_eq_true', decide_eq_false_iff_not, and_true, true_and]; (first | omega | (and_intros <;> intros <;> (try and_intros) <;> first | omega | assumption | exact trivial)))) ?_
    refine good_call (c := True) (by kernel_rfl) (fun _ => SVles.refl _) (fun _ => s63 l 64 _ (twiceC c) (fun x => s64 x c)) (by kernel_rfl) ?_
    refine good_run 2 (obs := []) (by kernel_rfl) trivial ?_
    refine good_cond (List.any l (twiceC c)) (by kernel_rfl) (fun hc2 => ?_) (fun hc2 => ?_)
    · have e : clashC l c = 6 := by rw [clashC, if_neg h0, if_pos hc2]
      rw [e]
      refine good_run 7 (obs := []) (by kernel_rfl) trivial ?_
      refine good_fin [(6 : Int) = (6 : Int)] (by kernel_rfl) ⟨rfl, trivial⟩
    · refine good_run 6 (obs := []) (by kernel_rfl) trivial ?_
      refine good_call (c := True) (by kernel_rfl) (fun _ => SVles.refl _) (fun _ => s63 l 65 _ (otherC c) (fun x => s65 x c)) (by kernel_rfl) ?_
      refine good_run 2 (obs := []) (by kernel_rfl) trivial ?_
      refine good_cond (List.any l (otherC c)) (by kernel_rfl) (fun hc3 => ?_) (fun hc3 => ?_)
      · have e : clashC l c = 10 := by rw [clashC, if_neg h0, if_neg (by rw [hc2]; decide), if_pos hc3]
        rw [e]
        refine good_run 7 (obs := []) (by kernel_rfl) trivial ?_
        refine good_fin [(10 : Int) = (10 : Int)] (by kernel_rfl) ⟨rfl, trivial⟩
      · have e : clashC l c = 0 := by rw [clashC, if_neg h0, if_neg (by rw [hc2]; decide), if_neg (by rw [hc3]; decide)]
        rw [e]
        refine good_run 7 (obs := []) (by kernel_rfl) trivial ?_
        refine good_fin [(0 : Int) = (0 : Int)] (by kernel_rfl) ⟨rfl, trivial⟩
/-- The fault of the element k. -/
def errC (l : List Came) (k : Nat) : Int := if aloneC (l.getD k default) = false then 2 else if (decide (0 < (k : Int)) && decide ((l.getD k default).Unit ≤ (l.getD (k - 1) default).Unit)) = true then 5 else clashC (l.take k) (l.getD k default)
/-- The first fault from an index on. -/
def firstC (f : Nat → Int) : Nat → Nat → Int × Int
  | 0, _ => (-1, 0)
  | n + 1, k => if f k ≠ 0 then ((k : Int), f k) else firstC f n (k + 1)
def checkC (l : List Came) : Int × Int := if 256 < l.length then (-1, 8) else firstC (errC l) l.length 0
theorem firstC_step (f : Nat → Int) (n k : Nat) (h : k < n) : firstC f (n - k) k = if f k ≠ 0 then ((k : Int), f k) else firstC f (n - (k + 1)) (k + 1) := by
  rw [show n - k = (n - (k + 1)) + 1 by omega, firstC]
theorem firstC_end (f : Nat → Int) (n : Nat) : firstC f (n - n) n = (-1, 0) := by rw [Nat.sub_self, firstC]
theorem take_sv (l : List Came) (k : Nat) (hk : k ≤ l.length) : SVle (.lst 4 (k - 0) fun i => (l.getD ((0 : Int).toNat + i) default).cells) (cames (l.take k)) := by
  refine svle_lst (by rw [List.length_take]; omega) fun i hi => SVles.of_eq ?_
  show (l.getD (0 + i) default).cells = ((l.take k).getD i default).cells
  rw [Nat.zero_add, getD_take l k i (by omega)]
theorem s12 (l : List Came) : Spec Try.prog 12 [cames l] (.tup [.int .i64 (checkC l).1, .int .i64 (checkC l).2]) := by
  refine spec_len 0 rfl (hasBody_of_slim Try.func12 F12_ok) fun hlen => ?_
  refine spec_of_good mixed Try.func12 F12_ok (by kernel_rfl) ?_
  refine good_run 14 (obs := []) (by kernel_rfl) trivial ?_
  refine good_cond (decide ((256 : Int) < (↑(List.length l) : Int))) (by kernel_rfl) (fun hc1 => ?_) (fun hc1 => ?_)
  · have e : checkC l = (-1, 8) := by simp only [gt_iff_lt, decide_eq_true_eq] at hc1; rw [checkC, if_pos (by omega)]
    rw [e]
    refine good_run 8 (obs := []) (by kernel_rfl) trivial ?_
    refine good_fin [(-1 : Int) = (-1 : Int), (8 : Int) = (8 : Int)] (by kernel_rfl) ⟨rfl, rfl, trivial⟩
  · have hck : checkC l = firstC (errC l) l.length 0 := by simp only [gt_iff_lt, decide_eq_false_iff_not] at hc1; rw [checkC, if_neg (by omega)]
    clear hc1
    refine good_run 10 (obs := []) (by kernel_rfl) trivial ?_
    refine good_loopJ (fun k : Nat => ⟨[(12, .sv (.int .i64 (k))), (11, LV.sv (SV.int IntKind.i64 (↑(List.length l) : Int))), (10, LV.sv (SV.lst (4 : Nat) (List.length l) fun i => Came.cells (List.getD l i default))), (0, LV.sv (SV.lst (4 : Nat) (List.length l) fun i => Came.cells (List.getD l i default)))], []⟩) (fun k => k ≤ l.length ∧ checkC l = firstC (errC l) (l.length - k) k) (fun k => l.length - k) (0) [(0 : Int) = (0 : Int), (↑(List.length l) : Int) = (↑(List.length l) : Int), List.length l = List.length l ∧ ∀ (i : Nat), i < List.length l → (fun i => Came.cells (List.getD l i default)) i = (fun i => Came.cells (List.getD l i default)) i, List.length l = List.length l ∧ ∀ (i : Nat), i < List.length l → (fun i => Came.cells (List.getD l i default)) i = (fun i => Came.cells (List.getD l i default)) i] (by kernel_rfl) (by kernel_rfl) ⟨rfl, rfl, ⟨rfl, fun _ _ => rfl⟩, ⟨rfl, fun _ _ => rfl⟩, trivial⟩ ⟨by omega, by omega⟩ ?_
    intro k hk
    refine good_run 6 (obs := []) (by kernel_rfl) trivial ?_
    refine good_cond (decide ((↑k : Int) < (↑(List.length l) : Int))) (by kernel_rfl) (fun hc1 => ?_) (fun hc1 => ?_)
    · have hlt : k < l.length := by simp only [decide_eq_true_eq] at hc1; omega
      have hst := firstC_step (errC l) l.length k hlt
      rw [← hk.2] at hst
      have hz : 0 < k → ((k : Int) - 1).toNat = k - 1 := fun h => by omega
      refine good_run 17 (obs := [(4 : Nat) = (4 : Nat) ∧ (0 : Int) ≤ (↑k : Int) ∧ (↑k : Int) < (↑(List.length l) : Int), (0 : Nat) + (4 : Nat) ≤ (4 : Nat), (4 : Nat) = (4 : Nat) ∧ (0 : Nat) + (4 : Nat) ≤ (4 : Nat), (0 : Nat) + (4 : Nat) ≤ (4 : Nat)]) (by kernel_rfl) (by (first | omega | assumption | exact ⟨rfl, trivial⟩ | simp only [AllP, inK_iff, roomOK_iff, decide_eq_true_eq, Bool.and_eq_true, Bool.or_eq_true, Bool.not_eq_true', decide_eq_false_iff_not, and_true, true_and]; (first | omega | (and_intros <;> intros <;> (try and_intros) <;> first | omega | assumption | exact trivial)))) ?_
      refine good_call (c := True) (by kernel_rfl) (fun _ => SVles.refl _) (fun _ => s33 (List.getD l k default)) (by kernel_rfl) ?_
      refine good_run 3 (obs := []) (by kernel_rfl) trivial ?_
      refine good_cond (!aloneC (List.getD l k default)) (by kernel_rfl) (fun hc2 => ?_) (fun hc2 => ?_)
      · have he : errC l k = 2 := by rw [errC, if_pos (by simpa using hc2)]
        rw [he, if_pos (by decide)] at hst
        rw [hst]
        refine good_run 11 (obs := []) (by kernel_rfl) trivial ?_
        refine good_leaveJ (by kernel_rfl) ?_
        refine good_run 2 (obs := []) (by kernel_rfl) trivial ?_
        refine good_fin [(↑k : Int) = (↑k : Int), (2 : Int) = (2 : Int)] (by kernel_rfl) ⟨rfl, rfl, trivial⟩
      · have ha : aloneC (l.getD k default) = true := by simpa using hc2
        have hcond : (decide (0 < (k : Int)) && decide ((l.getD k default).Unit ≤ (l.getD ((k : Int) - 1).toNat default).Unit)) = (decide (0 < (k : Int)) && decide ((l.getD k default).Unit ≤ (l.getD (k - 1) default).Unit)) := by
          rcases Nat.eq_zero_or_pos k with h | h
          · subst h; rfl
          · rw [hz h]
        refine good_run 19 (obs := [decide ((0 : Int) < (↑k : Int)) = true ∧ True → InK IntKind.i64 ((↑k : Int) - (1 : Int)), decide ((0 : Int) < (↑k : Int)) = true ∧ True → (4 : Nat) = (4 : Nat) ∧ (0 : Int) ≤ (↑k : Int) - (1 : Int) ∧ (↑k : Int) - (1 : Int) < (↑(List.length l) : Int)]) (by kernel_rfl) (by (first | omega | assumption | exact ⟨rfl, trivial⟩ | simp only [AllP, inK_iff, roomOK_iff, decide_eq_true_eq, Bool.and_eq_true, Bool.or_eq_true, Bool.not_eq_true', decide_eq_false_iff_not, and_true, true_and]; (first | omega | (and_intros <;> intros <;> (try and_intros) <;> first | omega | assumption | exact trivial)))) ?_
        refine good_cond (decide ((0 : Int) < (↑k : Int)) && decide ((List.getD l k default).Unit ≤ (List.getD l (Int.toNat ((↑k : Int) - (1 : Int))) default).Unit)) (by kernel_rfl) (fun hc3 => ?_) (fun hc3 => ?_)
        · have he : errC l k = 5 := by rw [errC, if_neg (by rw [ha]; decide), if_pos (by rw [← hcond]; exact hc3)]
          rw [he, if_pos (by decide)] at hst
          rw [hst]
          refine good_run 11 (obs := []) (by kernel_rfl) trivial ?_
          refine good_leaveJ (by kernel_rfl) ?_
          refine good_run 2 (obs := []) (by kernel_rfl) trivial ?_
          refine good_fin [(↑k : Int) = (↑k : Int), (5 : Int) = (5 : Int)] (by kernel_rfl) ⟨rfl, rfl, trivial⟩
        · have he : errC l k = clashC (l.take k) (l.getD k default) := by rw [errC, if_neg (by rw [ha]; decide), if_neg (by rw [← hcond]; simpa using hc3)]
          refine good_run 7 (obs := [True → (4 : Nat) = (4 : Nat) ∧ (0 : Int) ≤ (0 : Int) ∧ (0 : Int) ≤ (↑k : Int) ∧ (↑k : Int) ≤ (↑(List.length l) : Int), True → (0 : Nat) + (4 : Nat) ≤ (4 : Nat)]) (by kernel_rfl) (by (first | omega | assumption | exact ⟨rfl, trivial⟩ | simp only [AllP, inK_iff, roomOK_iff, decide_eq_true_eq, Bool.and_eq_true, Bool.or_eq_true, Bool.not_eq_true', decide_eq_false_iff_not, and_true, true_and]; (first | omega | (and_intros <;> intros <;> (try and_intros) <;> first | omega | assumption | exact trivial)))) ?_
          refine good_call (args := [SV.lst (4 : Nat) (k - (0 : Nat)) fun i => (fun i => Came.cells (List.getD l i default)) (Int.toNat (0 : Int) + i), SV.agg [SV.int IntKind.i64 (List.getD l k default).Unit, SV.int IntKind.i64 (List.getD l k default).Office, SV.int IntKind.i64 (List.getD l k default).Acc, SV.int IntKind.i64 (List.getD l k default).Num]]) (c := True) (by kernel_rfl) (fun _ => show SVles _ [cames (l.take k), (l.getD k default).sv] from ⟨take_sv l k hk.1, SVle.refl _, trivial⟩) (fun _ => s34 (l.take k) (l.getD k default)) (by kernel_rfl) ?_
          refine good_run 9 (obs := []) (by kernel_rfl) trivial ?_
          refine good_cond (!decide (clashC (List.take k l) (List.getD l k default) = (0 : Int))) (by kernel_rfl) (fun hc4 => ?_) (fun hc4 => ?_)
          · rw [← he] at hc4
            rw [if_pos (by simpa using hc4)] at hst
            rw [hst, ← he]
            refine good_run 11 (obs := []) (by kernel_rfl) trivial ?_
            refine good_leaveJ (by kernel_rfl) ?_
            refine good_run 2 (obs := []) (by kernel_rfl) trivial ?_
            refine good_fin [(↑k : Int) = (↑k : Int), errC l k = errC l k] (by kernel_rfl) ⟨rfl, rfl, trivial⟩
          · rw [← he] at hc4
            rw [if_neg (by simpa using hc4)] at hst
            have hnx : k + 1 ≤ l.length ∧ checkC l = firstC (errC l) (l.length - (k + 1)) (k + 1) := ⟨hlt, hst⟩
            refine good_run 7 (obs := [InK IntKind.i64 ((↑k : Int) + (1 : Int))]) (by kernel_rfl) (by (first | omega | assumption | exact ⟨rfl, trivial⟩ | simp only [AllP, inK_iff, roomOK_iff, decide_eq_true_eq, Bool.and_eq_true, Bool.or_eq_true, Bool.not_eq_true', decide_eq_false_iff_not, and_true, true_and]; (first | omega | (and_intros <;> intros <;> (try and_intros) <;> first | omega | assumption | exact trivial)))) ?_
            refine good_backJ (k + 1) [(↑k : Int) + (1 : Int) = (↑(k + (1 : Nat)) : Int), (↑(List.length l) : Int) = (↑(List.length l) : Int), List.length l = List.length l ∧ ∀ (i : Nat), i < List.length l → (fun i => Came.cells (List.getD l i default)) i = (fun i => Came.cells (List.getD l i default)) i, List.length l = List.length l ∧ ∀ (i : Nat), i < List.length l → (fun i => Came.cells (List.getD l i default)) i = (fun i => Came.cells (List.getD l i default)) i] (by kernel_rfl) (by kernel_rfl) ⟨(by omega), rfl, ⟨rfl, fun _ _ => rfl⟩, ⟨rfl, fun _ _ => rfl⟩, trivial⟩ (by omega) (by show _ < _; omega)
    · have hge : k = l.length := by simp only [decide_eq_false_iff_not] at hc1; omega
      subst hge
      have e : checkC l = (-1, 0) := by rw [hk.2, firstC_end]
      rw [e]
      refine good_run 2 (obs := []) (by kernel_rfl) trivial ?_
      refine good_leaveJ (by kernel_rfl) ?_
      refine good_run 8 (obs := []) (by kernel_rfl) trivial ?_
      refine good_fin [(-1 : Int) = (-1 : Int), (0 : Int) = (0 : Int)] (by kernel_rfl) ⟨rfl, rfl, trivial⟩
theorem s39 (l : List Came) : Spec Try.prog 39 [cames l] (.bool (decide ((checkC l).2 = 0))) := by
  refine spec_of_good mixed Try.func39 F39_ok (by kernel_rfl) ?_
  refine good_run 8 (obs := []) (by kernel_rfl) trivial ?_
  refine good_call (c := True) (by kernel_rfl) (fun _ => SVles.refl _) (fun _ => s12 (l)) (by kernel_rfl) ?_
  refine good_run 15 (obs := []) (by kernel_rfl) trivial ?_
  refine good_fin [decide ((checkC l).snd = (0 : Int)) = decide ((checkC l).snd = (0 : Int))] (by kernel_rfl) ⟨rfl, trivial⟩
end Go.Sx.T
