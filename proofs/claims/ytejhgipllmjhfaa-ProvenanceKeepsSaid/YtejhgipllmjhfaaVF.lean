/- Contracts of functions of the program, each proved by running its code symbolically (VF). -/
import Derived.Test.YtejhgipllmjhfaaVE
namespace Go.Sx.T
open Go Go.Proofs Go.Sx
set_option maxRecDepth 100000
set_option maxHeartbeats 4000000
set_option linter.unusedVariables false
set_option linter.unusedSimpArgs false
theorem s50 (n a b : Int) : Spec Try.prog 50 [.int .i64 n, .int .i64 a, .int .i64 b] (.bool (inI n a b)) := by
  refine spec_of_good mixed Try.func50 F50_ok (by kernel_rfl) ?_
  refine good_run 19 (obs := []) (by kernel_rfl) trivial ?_
  refine good_fin [(decide (a ≤ n) && decide (n ≤ b)) = inI n a b] (by kernel_rfl) ⟨(by rfl), trivial⟩
theorem s66 (c : Came) : Spec Try.prog 66 [orig c] (.bool (inI c.Office 0 1073741824 && placedC c)) := by
  refine spec_of_good mixed Try.func66 F66_ok (by kernel_rfl) ?_
  refine good_run 10 (obs := []) (by kernel_rfl) trivial ?_
  refine good_call (c := True) (by kernel_rfl) (fun _ => SVles.refl _) (fun _ => s50 (c.Office) ((0 : Int)) ((1073741824 : Int))) (by kernel_rfl) ?_
  refine good_run 4 (obs := []) (by kernel_rfl) trivial ?_
  refine good_call (c := inI c.Office (0 : Int) (1073741824 : Int) = true ∧ True) (by kernel_rfl) (fun _ => SVles.refl _) (fun _ => s50 (c.Acc) ((1 : Int)) ((1073741824 : Int))) (by kernel_rfl) ?_
  refine good_run 5 (obs := []) (by kernel_rfl) trivial ?_
  refine good_call (c := inI c.Acc (1 : Int) (1073741824 : Int) = true ∧ inI c.Office (0 : Int) (1073741824 : Int) = true ∧ True) (by kernel_rfl) (fun _ => SVles.refl _) (fun _ => s50 (c.Num) ((1 : Int)) ((9999 : Int))) (by kernel_rfl) ?_
  refine good_run 17 (obs := []) (by kernel_rfl) trivial ?_
  refine good_fin [(inI c.Office (0 : Int) (1073741824 : Int) && (inI c.Acc (1 : Int) (1073741824 : Int) && inI c.Num (1 : Int) (9999 : Int) || decide (c.Acc = (0 : Int)) && decide (c.Num = (0 : Int)))) = (inI c.Office (0 : Int) (1073741824 : Int) && placedC c)] (by kernel_rfl) ⟨(by rfl), trivial⟩
theorem s35 (c : Came) : Spec Try.prog 35 [c.sv] (.bool (aloneC c)) := by
  have e : aloneC c = (inI c.Unit 1 1073741824 && (inI c.Office 0 1073741824 && placedC c)) := by rw [aloneC, Bool.and_assoc]
  rw [e]
  have h66 := s66 c
  refine spec_of_good mixed Try.func35 F35_ok (by kernel_rfl) ?_
  refine good_run 10 (obs := []) (by kernel_rfl) trivial ?_
  refine good_call (c := True) (by kernel_rfl) (fun _ => SVles.refl _) (fun _ => s50 (c.Unit) ((1 : Int)) ((1073741824 : Int))) (by kernel_rfl) ?_
  refine good_run 4 (obs := [inI c.Unit (1 : Int) (1073741824 : Int) = true ∧ True → (1 : Nat) + (3 : Nat) ≤ (4 : Nat)]) (by kernel_rfl) (by (first | omega | assumption | exact ⟨rfl, trivial⟩ | simp only [AllP, inK_iff, roomOK_iff, decide_eq_true_eq, Bool.and_eq_true, Bool.or_eq_true, Bool.not_eq_true', decide_eq_false_iff_not, and_true, true_and]; (first | omega | (and_intros <;> intros <;> (try and_intros) <;> first | omega | assumption | exact trivial)))) ?_
  refine good_call (c := inI c.Unit (1 : Int) (1073741824 : Int) = true ∧ True) (by kernel_rfl) (fun _ => SVles.refl _) (fun _ => s66 (c)) (by kernel_rfl) ?_
  refine good_run 6 (obs := []) (by kernel_rfl) trivial ?_
  refine good_fin [(inI c.Unit (1 : Int) (1073741824 : Int) && (inI c.Office (0 : Int) (1073741824 : Int) && placedC c)) = (inI c.Unit (1 : Int) (1073741824 : Int) && (inI c.Office (0 : Int) (1073741824 : Int) && placedC c))] (by kernel_rfl) ⟨rfl, trivial⟩
def agC (c x : Came) : Bool := decide (x.Unit = c.Unit) || (!decide (c.Acc = 0) && decide (x.Acc = c.Acc) && decide (x.Num = c.Num))
def agO (c x : Came) : Bool := !decide (c.Acc = 0) && decide (x.Acc = c.Acc) && !decide (x.Office = c.Office)
def againstC (l : List Came) (c : Came) : Int := if l.any (agC c) = true then 6 else if l.any (agO c) = true then 10 else 0
theorem any_hit {α : Type} {l : List α} {f : α → Bool} {d : α} {k : Nat} (hk : k < l.length) (h : f (l.getD k d) = true) : l.any f = true := List.any_eq_true.2 ⟨_, getD_mem l d k hk, h⟩
theorem any_none {α : Type} {l : List α} {f : α → Bool} (d : α) (h : ∀ j, j < l.length → f (l.getD j d) = false) : l.any f = false := by
  rw [List.any_eq_false]
  intro x hx
  obtain ⟨k, hk, e⟩ := List.mem_iff_getElem.1 hx
  have := h k hk
  rw [getD_of_lt l k hk, e] at this
  rw [this]; decide
theorem against_eq (l : List Came) (c : Came) : againstC l c = if hasU l c.Unit = true then 6 else clashC l c := by
  unfold againstC
  have h1 : l.any (agC c) = (hasU l c.Unit || (!decide (c.Acc = 0) && l.any (twiceC c))) := by
    rw [Bool.eq_iff_iff]
    simp only [List.any_eq_true, agC, hasU, twiceC, sameA, Bool.or_eq_true, Bool.and_eq_true]
    constructor
    · rintro ⟨x, hx, h | ⟨⟨h0, h1⟩, h2⟩⟩
      · exact .inl ⟨x, hx, h⟩
      · exact .inr ⟨h0, x, hx, h1, h2⟩
    · rintro (⟨x, hx, h⟩ | ⟨h0, x, hx, h1, h2⟩)
      · exact ⟨x, hx, .inl h⟩
      · exact ⟨x, hx, .inr ⟨⟨h0, h1⟩, h2⟩⟩
  have h2 : l.any (agO c) = (!decide (c.Acc = 0) && l.any (otherC c)) := by
    rw [Bool.eq_iff_iff]
    simp only [List.any_eq_true, agO, otherC, sameA, Bool.and_eq_true]
    constructor
    · rintro ⟨x, hx, ⟨h0, h1⟩, h2⟩
      exact ⟨h0, x, hx, h1, h2⟩
    · rintro ⟨h0, x, hx, h1, h2⟩
      exact ⟨x, hx, ⟨h0, h1⟩, h2⟩
  rw [h1, h2]
  unfold clashC
  by_cases hu : hasU l c.Unit = true
  · rw [hu]; simp
  · rw [Bool.not_eq_true] at hu
    rw [hu]
    by_cases h0 : c.Acc = 0
    · simp [h0]
    · simp [h0]
theorem s36 (l : List Came) (c : Came) : Spec Try.prog 36 [cames l, c.sv] (.int .i64 (againstC l c)) := by
  refine spec_len 0 rfl (hasBody_of_slim Try.func36 F36_ok) fun hlen => ?_
  refine spec_of_good mixed Try.func36 F36_ok (by kernel_rfl) ?_
  refine good_run 13 (obs := []) (by kernel_rfl) trivial ?_
  refine good_loopJ (fun k : Nat => ⟨[(5, .sv (.int .i64 (k))), (3, LV.ptr (0 : Nat) (0 : Nat)), (0, LV.sv (SV.lst (4 : Nat) (List.length l) fun i => Came.cells (List.getD l i default)))], [Blk.cells (32 : Nat) true [SV.int IntKind.i64 c.Unit, SV.int IntKind.i64 c.Office, SV.int IntKind.i64 c.Acc, SV.int IntKind.i64 c.Num]]⟩) (fun k => k ≤ l.length ∧ ∀ j, j < k → agC c (l.getD j default) = false) (fun k => l.length - k) (0) [c.Unit = c.Unit, c.Office = c.Office, c.Acc = c.Acc, c.Num = c.Num, (0 : Int) = (0 : Int), List.length l = List.length l ∧ ∀ (i : Nat), i < List.length l → (fun i => Came.cells (List.getD l i default)) i = (fun i => Came.cells (List.getD l i default)) i] (by kernel_rfl) (by kernel_rfl) ⟨rfl, rfl, rfl, rfl, rfl, ⟨rfl, fun _ _ => rfl⟩, trivial⟩ ⟨by omega, by omega⟩ ?_
  intro k hk
  refine good_run 9 (obs := []) (by kernel_rfl) trivial ?_
  refine good_cond (decide ((↑k : Int) < (↑(List.length l) : Int))) (by kernel_rfl) (fun hc1 => ?_) (fun hc1 => ?_)
  · have hlt : k < l.length := by simp only [decide_eq_true_eq] at hc1; omega
    refine good_run 45 (obs := [True → (4 : Nat) = (4 : Nat) ∧ (0 : Int) ≤ (↑k : Int) ∧ (↑k : Int) < (↑(List.length l) : Int), (!decide (c.Acc = (0 : Int))) = true ∧ decide ((List.getD l k default).Unit = c.Unit) = false ∧ True → (4 : Nat) = (4 : Nat) ∧ (0 : Int) ≤ (↑k : Int) ∧ (↑k : Int) < (↑(List.length l) : Int), (!decide (c.Acc = (0 : Int)) && decide ((List.getD l k default).Acc = c.Acc)) = true ∧ decide ((List.getD l k default).Unit = c.Unit) = false ∧ True → (4 : Nat) = (4 : Nat) ∧ (0 : Int) ≤ (↑k : Int) ∧ (↑k : Int) < (↑(List.length l) : Int)]) (by kernel_rfl) (by (first | omega | assumption | exact ⟨rfl, trivial⟩ | simp only [AllP, inK_iff, roomOK_iff, decide_eq_true_eq, Bool.and_eq_true, Bool.or_eq_true, Bool.not_eq_true', decide_eq_false_iff_not, and_true, true_and]; (first | omega | (and_intros <;> intros <;> (try and_intros) <;> first | omega | assumption | exact trivial)))) ?_
    refine good_cond (decide ((List.getD l k default).Unit = c.Unit) || !decide (c.Acc = (0 : Int)) && decide ((List.getD l k default).Acc = c.Acc) && decide ((List.getD l k default).Num = c.Num)) (by kernel_rfl) (fun hc2 => ?_) (fun hc2 => ?_)
    · have e : againstC l c = 6 := if_pos (any_hit hlt (by unfold agC; simpa using hc2))
      rw [e]
      refine good_run 8 (obs := []) (by kernel_rfl) trivial ?_
      refine good_leaveJ (by kernel_rfl) ?_
      refine good_run 2 (obs := []) (by kernel_rfl) trivial ?_
      refine good_fin [(6 : Int) = (6 : Int)] (by kernel_rfl) ⟨rfl, trivial⟩
    · have hn : k + 1 ≤ l.length ∧ ∀ j, j < k + 1 → agC c (l.getD j default) = false := ⟨hlt, fun j hj => by
        rcases Nat.lt_or_ge j k with h | h
        · exact hk.2 j h
        · have : j = k := by omega
          subst this
          unfold agC; simpa using hc2⟩
      refine good_run 8 (obs := [InK IntKind.i64 ((↑k : Int) + (1 : Int))]) (by kernel_rfl) (by (first | omega | assumption | exact ⟨rfl, trivial⟩ | simp only [AllP, inK_iff, roomOK_iff, decide_eq_true_eq, Bool.and_eq_true, Bool.or_eq_true, Bool.not_eq_true', decide_eq_false_iff_not, and_true, true_and]; (first | omega | (and_intros <;> intros <;> (try and_intros) <;> first | omega | assumption | exact trivial)))) ?_
      refine good_backJ (k + 1) [c.Unit = c.Unit, c.Office = c.Office, c.Acc = c.Acc, c.Num = c.Num, (↑k : Int) + (1 : Int) = (↑(k + (1 : Nat)) : Int), List.length l = List.length l ∧ ∀ (i : Nat), i < List.length l → (fun i => Came.cells (List.getD l i default)) i = (fun i => Came.cells (List.getD l i default)) i] (by kernel_rfl) (by kernel_rfl) ⟨rfl, rfl, rfl, rfl, (by omega), ⟨rfl, fun _ _ => rfl⟩, trivial⟩ (by omega) (by show _ < _; omega)
  · have hge : k = l.length := by simp only [decide_eq_false_iff_not] at hc1; omega
    subst hge
    have h1 : l.any (agC c) = false := any_none default hk.2
    clear hk hc1
    refine good_run 2 (obs := []) (by kernel_rfl) trivial ?_
    refine good_leaveJ (by kernel_rfl) ?_
    refine good_run 8 (obs := []) (by kernel_rfl) trivial ?_
    refine good_loopJ (fun k : Nat => ⟨[(6, .sv (.int .i64 (k))), (3, LV.ptr (0 : Nat) (0 : Nat)), (0, LV.sv (SV.lst (4 : Nat) (List.length l) fun i => Came.cells (List.getD l i default)))], [Blk.cells (32 : Nat) true [SV.int IntKind.i64 c.Unit, SV.int IntKind.i64 c.Office, SV.int IntKind.i64 c.Acc, SV.int IntKind.i64 c.Num]]⟩) (fun k => k ≤ l.length ∧ ∀ j, j < k → agO c (l.getD j default) = false) (fun k => l.length - k) (0) [c.Unit = c.Unit, c.Office = c.Office, c.Acc = c.Acc, c.Num = c.Num, (0 : Int) = (0 : Int), List.length l = List.length l ∧ ∀ (i : Nat), i < List.length l → (fun i => Came.cells (List.getD l i default)) i = (fun i => Came.cells (List.getD l i default)) i] (by kernel_rfl) (by kernel_rfl) ⟨rfl, rfl, rfl, rfl, rfl, ⟨rfl, fun _ _ => rfl⟩, trivial⟩ ⟨by omega, by omega⟩ ?_
    intro k hk
    refine good_run 9 (obs := []) (by kernel_rfl) trivial ?_
    refine good_cond (decide ((↑k : Int) < (↑(List.length l) : Int))) (by kernel_rfl) (fun hc1 => ?_) (fun hc1 => ?_)
    · have hlt : k < l.length := by simp only [decide_eq_true_eq] at hc1; omega
      refine good_run 35 (obs := [(!decide (c.Acc = (0 : Int))) = true ∧ True → (4 : Nat) = (4 : Nat) ∧ (0 : Int) ≤ (↑k : Int) ∧ (↑k : Int) < (↑(List.length l) : Int), (!decide (c.Acc = (0 : Int)) && decide ((List.getD l k default).Acc = c.Acc)) = true ∧ True → (4 : Nat) = (4 : Nat) ∧ (0 : Int) ≤ (↑k : Int) ∧ (↑k : Int) < (↑(List.length l) : Int)]) (by kernel_rfl) (by (first | omega | assumption | exact ⟨rfl, trivial⟩ | simp only [AllP, inK_iff, roomOK_iff, decide_eq_true_eq, Bool.and_eq_true, Bool.or_eq_true, Bool.not_eq_true', decide_eq_false_iff_not, and_true, true_and]; (first | omega | (and_intros <;> intros <;> (try and_intros) <;> first | omega | assumption | exact trivial)))) ?_
      refine good_cond (!decide (c.Acc = (0 : Int)) && decide ((List.getD l k default).Acc = c.Acc) && !decide ((List.getD l k default).Office = c.Office)) (by kernel_rfl) (fun hc2 => ?_) (fun hc2 => ?_)
      · have e : againstC l c = 10 := by rw [againstC, if_neg (by rw [h1]; decide), if_pos (any_hit hlt (by unfold agO; simpa using hc2))]
        rw [e]
        refine good_run 8 (obs := []) (by kernel_rfl) trivial ?_
        refine good_leaveJ (by kernel_rfl) ?_
        refine good_run 2 (obs := []) (by kernel_rfl) trivial ?_
        refine good_fin [(10 : Int) = (10 : Int)] (by kernel_rfl) ⟨rfl, trivial⟩
      · have hn : k + 1 ≤ l.length ∧ ∀ j, j < k + 1 → agO c (l.getD j default) = false := ⟨hlt, fun j hj => by
          rcases Nat.lt_or_ge j k with h | h
          · exact hk.2 j h
          · have : j = k := by omega
            subst this
            unfold agO; simpa using hc2⟩
        refine good_run 8 (obs := [InK IntKind.i64 ((↑k : Int) + (1 : Int))]) (by kernel_rfl) (by (first | omega | assumption | exact ⟨rfl, trivial⟩ | simp only [AllP, inK_iff, roomOK_iff, decide_eq_true_eq, Bool.and_eq_true, Bool.or_eq_true, Bool.not_eq_true', decide_eq_false_iff_not, and_true, true_and]; (first | omega | (and_intros <;> intros <;> (try and_intros) <;> first | omega | assumption | exact trivial)))) ?_
        refine good_backJ (k + 1) [c.Unit = c.Unit, c.Office = c.Office, c.Acc = c.Acc, c.Num = c.Num, (↑k : Int) + (1 : Int) = (↑(k + (1 : Nat)) : Int), List.length l = List.length l ∧ ∀ (i : Nat), i < List.length l → (fun i => Came.cells (List.getD l i default)) i = (fun i => Came.cells (List.getD l i default)) i] (by kernel_rfl) (by kernel_rfl) ⟨rfl, rfl, rfl, rfl, (by omega), ⟨rfl, fun _ _ => rfl⟩, trivial⟩ (by omega) (by show _ < _; omega)
    · have hge : k = l.length := by simp only [decide_eq_false_iff_not] at hc1; omega
      subst hge
      have e : againstC l c = 0 := by rw [againstC, if_neg (by rw [h1]; decide), if_neg (by rw [any_none default hk.2]; decide)]
      rw [e]
      refine good_run 2 (obs := []) (by kernel_rfl) trivial ?_
      refine good_leaveJ (by kernel_rfl) ?_
      refine good_run 7 (obs := []) (by kernel_rfl) trivial ?_
      refine good_fin [(0 : Int) = (0 : Int)] (by kernel_rfl) ⟨rfl, trivial⟩
end Go.Sx.T
