/- Contracts of functions of the program, each proved by running its code symbolically (HD). -/
import Derived.Test.YtgnffeajpmniiaaHB
import Derived.Test.YtgnffeajpmniiaaSx4
namespace Go.Sx.T
open Go Go.Proofs Go.Sx
set_option maxRecDepth 100000
set_option maxHeartbeats 4000000
set_option linter.unusedVariables false
set_option linter.unusedSimpArgs false
def fewB (l : List Box) : Bool := l.all (fun b => decide (b.Contents.length ≤ 40)) && decide (l.length ≤ 20)
theorem s60 (l : List Box) : Spec Try.prog 60 [boxes l] (.bool (fewB l)) := by
  refine spec_len 0 rfl (hasBody_of_slim Try.func60 F60_ok) fun hlen => ?_
  refine spec_of_good mixed Try.func60 F60_ok (by kernel_rfl) ?_
  refine good_run 14 (obs := []) (by kernel_rfl) trivial ?_
  refine good_loopJ (fun k : Nat => ⟨[(7, .sv (.int .i64 (k))), (6, LV.sv (SV.int IntKind.i64 (↑(List.length l) : Int))), (5, LV.sv (SV.lst (5 : Nat) (List.length l) fun i => Box.cells (List.getD l i default))), (0, LV.sv (SV.lst (5 : Nat) (List.length l) fun i => Box.cells (List.getD l i default)))], []⟩) (fun k => k ≤ l.length ∧ ∀ j, j < k → (l.getD j default).Contents.length ≤ 40) (fun k => l.length - k) (0) [(0 : Int) = (0 : Int), (↑(List.length l) : Int) = (↑(List.length l) : Int), List.length l = List.length l ∧ ∀ (i : Nat), i < List.length l → (fun i => Box.cells (List.getD l i default)) i = (fun i => Box.cells (List.getD l i default)) i, List.length l = List.length l ∧ ∀ (i : Nat), i < List.length l → (fun i => Box.cells (List.getD l i default)) i = (fun i => Box.cells (List.getD l i default)) i] (by kernel_rfl) (by kernel_rfl) ⟨rfl, rfl, ⟨rfl, fun _ _ => rfl⟩, ⟨rfl, fun _ _ => rfl⟩, trivial⟩ ⟨by omega, by omega⟩ ?_
  intro k hk
  refine good_run 6 (obs := []) (by kernel_rfl) trivial ?_
  refine good_cond (decide ((↑k : Int) < (↑(List.length l) : Int))) (by kernel_rfl) (fun hc1 => ?_) (fun hc1 => ?_)
  · have hlt : k < l.length := by simp at hc1; omega
    refine good_run 19 (obs := [(5 : Nat) = (5 : Nat) ∧ (0 : Int) ≤ (↑k : Int) ∧ (↑k : Int) < (↑(List.length l) : Int), (0 : Nat) + (5 : Nat) ≤ (5 : Nat), (5 : Nat) = (5 : Nat) ∧ (0 : Nat) + (5 : Nat) ≤ (5 : Nat)]) (by kernel_rfl) (by (first | omega | assumption | exact ⟨rfl, trivial⟩ | simp only [AllP, inK_iff, roomOK_iff, decide_eq_true_eq, Bool.and_eq_true, Bool.or_eq_true, Bool.not_eq_true', decide_eq_false_iff_not, and_true, true_and]; (first | omega | (and_intros <;> intros <;> (try and_intros) <;> first | omega | assumption | exact trivial)))) ?_
    refine good_cond (decide ((40 : Int) < (↑(List.length (List.getD l k default).Contents) : Int))) (by kernel_rfl) (fun hc2 => ?_) (fun hc2 => ?_)
    · simp only [decide_eq_true_eq] at hc2
      have : fewB l = false := by
        rw [fewB, Bool.and_eq_false_iff]
        left
        rw [List.all_eq_false]
        exact ⟨_, getD_mem l default k hlt, by rw [decide_eq_true_eq]; omega⟩
      refine good_run 8 (obs := []) (by kernel_rfl) trivial ?_
      refine good_leaveJ (by kernel_rfl) ?_
      refine good_run 2 (obs := []) (by kernel_rfl) trivial ?_
      refine good_fin [false = fewB l] (by kernel_rfl) ⟨?_, trivial⟩
      all_goals exact this.symm
    · simp only [decide_eq_false_iff_not] at hc2
      refine good_run 7 (obs := [InK IntKind.i64 ((↑k : Int) + (1 : Int))]) (by kernel_rfl) (by (first | omega | assumption | exact ⟨rfl, trivial⟩ | simp only [AllP, inK_iff, roomOK_iff, decide_eq_true_eq, Bool.and_eq_true, Bool.or_eq_true, Bool.not_eq_true', decide_eq_false_iff_not, and_true, true_and]; (first | omega | (and_intros <;> intros <;> (try and_intros) <;> first | omega | assumption | exact trivial)))) ?_
      refine good_backJ (k + 1) [(↑k : Int) + (1 : Int) = (↑(k + (1 : Nat)) : Int), (↑(List.length l) : Int) = (↑(List.length l) : Int), List.length l = List.length l ∧ ∀ (i : Nat), i < List.length l → (fun i => Box.cells (List.getD l i default)) i = (fun i => Box.cells (List.getD l i default)) i, List.length l = List.length l ∧ ∀ (i : Nat), i < List.length l → (fun i => Box.cells (List.getD l i default)) i = (fun i => Box.cells (List.getD l i default)) i] (by kernel_rfl) (by kernel_rfl) ⟨(by omega), rfl, ⟨rfl, fun _ _ => rfl⟩, ⟨rfl, fun _ _ => rfl⟩, trivial⟩ ?_ (by show _ < _; omega)
      refine ⟨by omega, fun j hj => ?_⟩
      rcases Nat.lt_or_ge j k with h | h
      · exact hk.2 j h
      · have : j = k := by omega
        subst this; omega
  · have : k = l.length := by simp at hc1; omega
    subst this
    have : fewB l = decide ((l.length : Int) ≤ 20) := by
      have h1 : l.all (fun b => decide (b.Contents.length ≤ 40)) = true := by
        rw [List.all_eq_true]
        intro c hc
        obtain ⟨i, hi, e⟩ := List.mem_iff_getElem.1 hc
        have := hk.2 i hi
        rw [getD_of_lt _ i hi, e] at this
        simpa using this
      rw [fewB, h1, Bool.true_and]
      exact decide_eq_decide.2 (by omega)
    refine good_run 2 (obs := []) (by kernel_rfl) trivial ?_
    refine good_leaveJ (by kernel_rfl) ?_
    refine good_run 10 (obs := []) (by kernel_rfl) trivial ?_
    refine good_fin [decide ((↑(List.length l) : Int) ≤ (20 : Int)) = fewB l] (by kernel_rfl) ⟨?_, trivial⟩
    all_goals exact this.symm
theorem fewB_spec {l : List Box} (h : fewB l = true) : l.length ≤ 20 ∧ ∀ b ∈ l, b.Contents.length ≤ 40 := by
  simp only [fewB, Bool.and_eq_true, List.all_eq_true, decide_eq_true_eq] at h
  exact ⟨h.2, h.1⟩
theorem s42 (l : List Box) (h : l.length ≤ 100000) (hl : ∀ b ∈ l, b.Contents.length ≤ 100000) : SpecOwn Try.prog 42 [boxes l] 51 5 l.length fun i => (l.getD i default).cells := by
  refine specOwn_of_good mixed Try.func42 F42_ok (by kernel_rfl) ?_
  refine good_run 22 (obs := [(51 : Nat) = (51 : Nat) ∧ (5 : Nat) = (5 : Nat) ∧ (5 : Nat) = (5 : Nat) ∧ roomOK ((0 : Nat) + List.length l) (56 : Nat)]) (by kernel_rfl) (by (first | omega | assumption | exact ⟨rfl, trivial⟩ | simp only [AllP, inK_iff, roomOK_iff, decide_eq_true_eq, Bool.and_eq_true, Bool.or_eq_true, Bool.not_eq_true', decide_eq_false_iff_not, and_true, true_and]; (first | omega | (and_intros <;> intros <;> (try and_intros) <;> first | omega | assumption | exact trivial)))) ?_
  refine good_loopJ (fun k : Nat => ⟨[(10, .sv (.int .i64 (k))), (9, LV.sv (SV.int IntKind.i64 (↑((0 : Nat) + List.length l) : Int))), (3, LV.own (0 : Nat))], [.row 51 5 l.length true fun i => Box.cells (List.getD l i default)]⟩) (fun k => k ≤ l.length) (fun k => l.length - k) (0) [(0 : Nat) + List.length l = List.length l ∧ ∀ (i : Nat), i < (0 : Nat) + List.length l → joinGet (0 : Nat) (cutRows (5 : Nat) []) (fun i => Box.cells (List.getD l i default)) i = (fun i => Box.cells (List.getD l i default)) i, (0 : Int) = (0 : Int), (↑((0 : Nat) + List.length l) : Int) = (↑((0 : Nat) + List.length l) : Int)] (by kernel_rfl) (by kernel_rfl) ⟨?_, rfl, rfl, trivial⟩ (by omega) ?_
  · exact ⟨by omega, fun i hi => by simp [joinGet]⟩
  intro k hk
  refine good_run 6 (obs := []) (by kernel_rfl) trivial ?_
  refine good_cond (decide ((↑k : Int) < (↑((0 : Nat) + List.length l) : Int))) (by kernel_rfl) (fun hc1 => ?_) (fun hc1 => ?_)
  · have hlt : k < l.length := by simp at hc1; omega
    have := hl _ (getD_mem l default k hlt)
    refine good_run 30 (obs := [(5 : Nat) = (5 : Nat) ∧ (0 : Int) ≤ (↑k : Int) ∧ (↑k : Int) < (↑(List.length l) : Int), (100 : Nat) = (100 : Nat) ∧ (2 : Nat) = (2 : Nat) ∧ (2 : Nat) = (2 : Nat) ∧ roomOK ((0 : Nat) + List.length (List.getD l k default).Contents) (16 : Nat), (5 : Nat) = (5 : Nat) ∧ (0 : Int) ≤ (↑k : Int) ∧ (↑k : Int) < (↑(List.length l) : Int), (1 : Nat) = (1 : Nat) ∧ (4 : Nat) + (1 : Nat) ≤ (5 : Nat), InK IntKind.i64 ((↑k : Int) + (1 : Int))]) (by kernel_rfl) (by (first | omega | assumption | exact ⟨rfl, trivial⟩ | simp only [AllP, inK_iff, roomOK_iff, decide_eq_true_eq, Bool.and_eq_true, Bool.or_eq_true, Bool.not_eq_true', decide_eq_false_iff_not, and_true, true_and]; (first | omega | (and_intros <;> intros <;> (try and_intros) <;> first | omega | assumption | exact trivial)))) ?_
    refine good_backJ (k + 1) [List.length l = List.length l ∧ ∀ (i : Nat), i < List.length l → (fun j => if j = k then lay ((fun i => Box.cells (List.getD l i default)) k) (4 : Nat) [SV.lst (2 : Nat) ((0 : Nat) + List.length (List.getD l k default).Contents) (joinGet (0 : Nat) (cutRows (2 : Nat) []) fun i => Content.cells (List.getD (List.getD l k default).Contents i default))] else (fun i => Box.cells (List.getD l i default)) j) i = (fun i => Box.cells (List.getD l i default)) i, (↑k : Int) + (1 : Int) = (↑(k + (1 : Nat)) : Int), (↑((0 : Nat) + List.length l) : Int) = (↑((0 : Nat) + List.length l) : Int)] (by kernel_rfl) (by kernel_rfl) ⟨?_, (by omega), rfl, trivial⟩ (by omega) (by show _ < _; omega)
    refine ⟨rfl, fun i hi => ?_⟩
    show (if i = k then _ else _) = _
    split
    · rename_i e; subst e; rw [joinGet_zero]; simp only [Nat.zero_add]; rfl
    · rfl
  · refine good_run 2 (obs := []) (by kernel_rfl) trivial ?_
    refine good_leaveJ (by kernel_rfl) ?_
    refine good_run 8 (obs := []) (by kernel_rfl) trivial ?_
    refine good_finOwn [List.length l = List.length l ∧ ∀ (j : Nat), j < List.length l → (fun i => Box.cells (List.getD l i default)) j = (fun i => Box.cells (List.getD l i default)) j] (by kernel_rfl) ⟨⟨rfl, fun _ _ => rfl⟩, trivial⟩
end Go.Sx.T
