/- Contracts of functions of the program, each proved by running its code symbolically (VD). -/
import Derived.Test.YtejhgipllmjhfaaVB
namespace Go.Sx.T
open Go Go.Proofs Go.Sx
set_option maxRecDepth 100000
set_option maxHeartbeats 4000000
set_option linter.unusedVariables false
set_option linter.unusedSimpArgs false
def ofC (l : List Came) (u : Int) : Came × Bool := match l.find? (fun c => decide (c.Unit = u)) with | some c => (c, true) | none => (⟨0, 0, 0, 0⟩, false)
def orig (c : Came) : SV := .agg [.int .i64 c.Office, .int .i64 c.Acc, .int .i64 c.Num]
theorem s38 (c : Came) (u : Int) : Spec Try.prog 38 [c.sv, .ref [.int .i64 u] 0] (.bool (decide (c.Unit = u))) := by
  refine spec_of_good mixed Try.func38 F38_ok (by kernel_rfl) ?_
  refine good_run 16 (obs := []) (by kernel_rfl) trivial ?_
  refine good_fin [decide (c.Unit = u) = decide (c.Unit = u)] (by kernel_rfl) ⟨rfl, trivial⟩
theorem s15 (l : List Came) (u : Int) : Spec Try.prog 15 [cames l, .int .i64 u] (.tup [orig (ofC l u).1, .bool (ofC l u).2]) := by
  refine spec_of_good mixed Try.func15 F15_ok (by kernel_rfl) ?_
  refine good_run 11 (obs := []) (by kernel_rfl) trivial ?_
  refine good_call (c := True) (by kernel_rfl) (fun _ => SVles.refl _) (fun _ => s37 l 38 _ (fun c => decide (c.Unit = u)) (fun c => s38 c u)) (by kernel_rfl) ?_
  rcases findI_cases l (fun c => decide (c.Unit = u)) with ⟨e, _, h, _⟩ | ⟨k, hk, e, _, h, _, _⟩
  · have e2 : ofC l u = (⟨0, 0, 0, 0⟩, false) := by rw [ofC, h]
    rw [e, e2]
    refine good_run 10 (obs := []) (by kernel_rfl) trivial ?_
    refine good_cond true (by kernel_rfl) (fun _ => ?_) (fun h => nomatch h)
    refine good_run 9 (obs := [(3 : Nat) = (3 : Nat) ∧ (0 : Nat) + (3 : Nat) ≤ (3 : Nat)]) (by kernel_rfl) (by (first | omega | assumption | exact ⟨rfl, trivial⟩ | simp only [AllP, inK_iff, roomOK_iff, decide_eq_true_eq, Bool.and_eq_true, Bool.or_eq_true, Bool.not_eq_true', decide_eq_false_iff_not, and_true, true_and]; (first | omega | (and_intros <;> intros <;> (try and_intros) <;> first | omega | assumption | exact trivial)))) ?_
    refine good_fin [(0 : Int) = (0 : Int), (0 : Int) = (0 : Int), (0 : Int) = (0 : Int), false = false] (by kernel_rfl) ⟨rfl, rfl, rfl, rfl, trivial⟩
  · have e2 : ofC l u = (l.getD k default, true) := by rw [ofC, h]
    rw [e, e2]
    refine good_run 10 (obs := []) (by kernel_rfl) trivial ?_
    refine good_cond (decide ((↑k : Int) < (0 : Int))) (by kernel_rfl) (fun hc1 => ?_) (fun hc1 => ?_)
    · exfalso; simp only [decide_eq_true_eq] at hc1; omega
    · refine good_run 13 (obs := [(4 : Nat) = (4 : Nat) ∧ (0 : Int) ≤ (↑k : Int) ∧ (↑k : Int) < (↑(List.length l) : Int), (1 : Nat) + (3 : Nat) ≤ (4 : Nat), (3 : Nat) = (3 : Nat) ∧ (0 : Nat) + (3 : Nat) ≤ (3 : Nat)]) (by kernel_rfl) (by (first | omega | assumption | exact ⟨rfl, trivial⟩ | simp only [AllP, inK_iff, roomOK_iff, decide_eq_true_eq, Bool.and_eq_true, Bool.or_eq_true, Bool.not_eq_true', decide_eq_false_iff_not, and_true, true_and]; (first | omega | (and_intros <;> intros <;> (try and_intros) <;> first | omega | assumption | exact trivial)))) ?_
      refine good_fin [(List.getD l k default).Office = (List.getD l k default).Office, (List.getD l k default).Acc = (List.getD l k default).Acc, (List.getD l k default).Num = (List.getD l k default).Num, true = true] (by kernel_rfl) ⟨rfl, rfl, rfl, rfl, trivial⟩
theorem s67 (a : Int) : Spec Try.prog 67 [.int .i64 a] (.bool false) := by
  refine spec_of_good mixed Try.func67 F67_ok (by kernel_rfl) ?_
  refine good_run 14 (obs := []) (by kernel_rfl) trivial ?_
  refine good_fin [(!decide (a = a)) = false] (by kernel_rfl) ⟨?_, trivial⟩
  simp
def cmpI (a b : Int) : Int := if a < b then -1 else if a > b then 1 else 0
theorem s42 (a b : Int) : Spec Try.prog 42 [.int .i64 a, .int .i64 b] (.int .i64 (cmpI a b)) := by
  refine spec_of_good mixed Try.func42 F42_ok (by kernel_rfl) ?_
  refine good_run 8 (obs := []) (by kernel_rfl) trivial ?_
  refine good_call (c := True) (by kernel_rfl) (fun _ => SVles.refl _) (fun _ => s67 (a)) (by kernel_rfl) ?_
  refine good_run 6 (obs := []) (by kernel_rfl) trivial ?_
  refine good_call (c := True) (by kernel_rfl) (fun _ => SVles.refl _) (fun _ => s67 (b)) (by kernel_rfl) ?_
  refine good_run 9 (obs := []) (by kernel_rfl) trivial ?_
  refine good_cond false (by kernel_rfl) (fun h => nomatch h) (fun _ => ?_)
  refine good_run 7 (obs := []) (by kernel_rfl) trivial ?_
  refine good_cond false (by kernel_rfl) (fun h => nomatch h) (fun _ => ?_)
  refine good_run 9 (obs := []) (by kernel_rfl) trivial ?_
  refine good_cond (decide (a < b)) (by kernel_rfl) (fun hc1 => ?_) (fun hc1 => ?_)
  · have e : cmpI a b = -1 := if_pos (by simpa using hc1)
    rw [e]
    refine good_run 7 (obs := []) (by kernel_rfl) trivial ?_
    refine good_fin [(-1 : Int) = (-1 : Int)] (by kernel_rfl) ⟨rfl, trivial⟩
  · have h1 : ¬ a < b := by simpa using hc1
    refine good_run 9 (obs := []) (by kernel_rfl) trivial ?_
    refine good_cond (decide (b < a)) (by kernel_rfl) (fun hc2 => ?_) (fun hc2 => ?_)
    · have e : cmpI a b = 1 := by rw [cmpI, if_neg h1, if_pos (by simpa using hc2)]
      rw [e]
      refine good_run 7 (obs := []) (by kernel_rfl) trivial ?_
      refine good_fin [(1 : Int) = (1 : Int)] (by kernel_rfl) ⟨rfl, trivial⟩
    · have e : cmpI a b = 0 := by rw [cmpI, if_neg h1, if_neg (by simpa using hc2)]
      rw [e]
      refine good_run 7 (obs := []) (by kernel_rfl) trivial ?_
      refine good_fin [(0 : Int) = (0 : Int)] (by kernel_rfl) ⟨rfl, trivial⟩
def cmpU (u : Int) (c : Came) : Int := cmpI c.Unit u
theorem s41 (c : Came) (u : Int) : Spec Try.prog 41 [c.sv, .int .i64 u] (.int .i64 (cmpU u c)) := by
  refine spec_of_good mixed Try.func41 F41_ok (by kernel_rfl) ?_
  refine good_run 11 (obs := []) (by kernel_rfl) trivial ?_
  refine good_call (c := True) (by kernel_rfl) (fun _ => SVles.refl _) (fun _ => s42 (c.Unit) (u)) (by kernel_rfl) ?_
  refine good_run 4 (obs := []) (by kernel_rfl) trivial ?_
  refine good_fin [cmpI c.Unit u = cmpU u c] (by kernel_rfl) ⟨(by rfl), trivial⟩
theorem checkC_iff (l : List Came) : (checkC l).2 = 0 ↔ l.length ≤ 256 ∧ ∀ k, k < l.length → errC l k = 0 := by
  have key : ∀ n k, (firstC (errC l) n k).2 = 0 ↔ ∀ j, j < n → errC l (k + j) = 0 := by
    intro n
    induction n with
    | zero => intro k; simp [firstC]
    | succ n ih =>
      intro k
      rw [firstC]
      by_cases h : errC l k ≠ 0
      · rw [if_pos h]
        exact ⟨fun h2 => (h h2).elim, fun h2 => (h (h2 0 (by omega))).elim⟩
      · rw [if_neg h, ih]
        have h : errC l k = 0 := by simpa using h
        constructor
        · intro h2 j hj
          cases j with
          | zero => exact h
          | succ j => have := h2 j (by omega); rwa [show k + 1 + j = k + (j + 1) by omega] at this
        · intro h2 j hj
          have := h2 (j + 1) (by omega)
          rwa [show k + (j + 1) = k + 1 + j by omega] at this
  unfold checkC
  by_cases h : 256 < l.length
  · rw [if_pos h]
    exact ⟨fun h => (by cases h), fun h2 => (by omega)⟩
  · rw [if_neg h, key]
    simp only [Nat.zero_add]
    exact ⟨fun h2 => ⟨by omega, h2⟩, fun h2 => h2.2⟩
structure RightC (l : List Came) : Prop where
  len : l.length ≤ 256
  alone : ∀ c ∈ l, aloneC c = true
  asc : l.Pairwise fun a b => a.Unit < b.Unit
  clash : ∀ k, k < l.length → clashC (l.take k) (l.getD k default) = 0
theorem right_iff (l : List Came) : (checkC l).2 = 0 ↔ RightC l := by
  rw [checkC_iff]
  constructor
  · rintro ⟨h1, h2⟩
    have h3 : ∀ k, k < l.length → aloneC (l.getD k default) = true ∧ (0 < k → (l.getD (k - 1) default).Unit < (l.getD k default).Unit) ∧ clashC (l.take k) (l.getD k default) = 0 := fun k hk => by
      have h := h2 k hk
      unfold errC at h
      split at h
      · cases h
      · rename_i ha
        split at h
        · cases h
        · rename_i hu
          refine ⟨by simpa using ha, fun h0 => ?_, h⟩
          simp only [Bool.and_eq_true, decide_eq_true_eq, not_and] at hu
          have := hu (by omega)
          omega
    refine ⟨h1, fun c hc => ?_, ?_, fun k hk => (h3 k hk).2.2⟩
    · obtain ⟨k, hk, e⟩ := List.mem_iff_getElem.1 hc
      have := (h3 k hk).1
      rwa [getD_of_lt l k hk, e] at this
    · rw [List.pairwise_iff_getElem]
      have key : ∀ n i, i + n + 1 < l.length → (l.getD i default).Unit < (l.getD (i + n + 1) default).Unit := by
        intro n
        induction n with
        | zero => intro i hi; have := (h3 (i + 1) hi).2.1 (by omega); simpa using this
        | succ n ih =>
          intro i hi
          have h4 := ih i (by omega)
          have h5 := (h3 (i + (n + 1) + 1) hi).2.1 (by omega)
          rw [show i + (n + 1) + 1 - 1 = i + n + 1 by omega] at h5
          omega
      intro i j hi hj hij
      have := key (j - i - 1) i (by omega)
      rwa [show i + (j - i - 1) + 1 = j by omega, getD_of_lt l i hi, getD_of_lt l j hj] at this
  · intro h
    refine ⟨h.len, fun k hk => ?_⟩
    have ha := h.alone _ (getD_mem l default k hk)
    rw [errC, if_neg (by rw [ha]; decide), if_neg]
    · exact h.clash k hk
    · simp only [Bool.and_eq_true, decide_eq_true_eq, not_and]
      intro h0
      have := List.pairwise_iff_getElem.1 h.asc (k - 1) k (by omega) hk (by omega)
      rw [getD_of_lt l k hk, getD_of_lt l (k - 1) (by omega)]
      omega
end Go.Sx.T
