/- Contracts of functions of the program, each proved by running its code symbolically (VE). -/
import Derived.Test.YtejhgipllmjhfaaVD
namespace Go.Sx.T
open Go Go.Proofs Go.Sx
set_option maxRecDepth 100000
set_option maxHeartbeats 4000000
set_option linter.unusedVariables false
set_option linter.unusedSimpArgs false
/-- How many units are less. -/
def atC (l : List Came) (u : Int) : Nat := (l.takeWhile fun c => decide (c.Unit < u)).length
theorem atC_le (l : List Came) (u : Int) : atC l u ≤ l.length := by
  unfold atC
  have := (List.takeWhile_prefix (p := fun c : Came => decide (c.Unit < u)) (l := l)).length_le
  exact this
theorem atC_below (l : List Came) (u : Int) : ∀ j, j < atC l u → (l.getD j default).Unit < u := by
  intro j hj
  unfold atC at hj
  have hp := List.takeWhile_prefix (p := fun c : Came => decide (c.Unit < u)) (l := l)
  have h1 : (l.takeWhile fun c => decide (c.Unit < u)).getD j default = l.getD j default := by
    rw [List.prefix_iff_eq_take.1 hp, getD_take _ _ _ hj]
  rw [← h1]
  have h3 := List.all_eq_true.1 (List.all_takeWhile (p := fun c : Came => decide (c.Unit < u)) (l := l)) _ (getD_mem _ default j hj)
  simpa using h3
theorem atC_stop (l : List Came) (u : Int) (h : atC l u < l.length) : u ≤ (l.getD (atC l u) default).Unit := by
  unfold atC at h ⊢
  have : (l.takeWhile fun c => decide (c.Unit < u)) ++ (l.dropWhile fun c => decide (c.Unit < u)) = l := List.takeWhile_append_dropWhile
  rcases hd : l.dropWhile (fun c => decide (c.Unit < u)) with _ | ⟨x, r⟩
  · rw [hd, List.append_nil] at this
    rw [this] at h
    omega
  · have hx : ¬ (x.Unit < u) := by
      have h0 : l.dropWhile (fun c => decide (c.Unit < u)) ≠ [] := by rw [hd]; simp
      have h1 := List.head_dropWhile_not (fun c : Came => decide (c.Unit < u)) h0
      simp only [hd, List.head_cons] at h1
      simpa using h1
    have e : l.getD (l.takeWhile fun c => decide (c.Unit < u)).length default = x := by
      rw [hd] at this
      generalize l.takeWhile (fun c => decide (c.Unit < u)) = a at this
      rw [← this, getD_append_right _ _ _ (Nat.le_refl _), Nat.sub_self]
      rfl
    rw [e]; omega
theorem asc_get {l : List Came} (h : l.Pairwise fun a b => a.Unit < b.Unit) {i j : Nat} (hij : i < j) (hj : j < l.length) : (l.getD i default).Unit < (l.getD j default).Unit := by
  rw [getD_of_lt l i (by omega), getD_of_lt l j hj]
  exact List.pairwise_iff_getElem.1 h i j (by omega) hj hij
theorem atC_above {l : List Came} (ha : l.Pairwise fun a b => a.Unit < b.Unit) (u : Int) : ∀ j, atC l u ≤ j → j < l.length → u ≤ (l.getD j default).Unit := by
  intro j h1 h2
  have h3 := atC_stop l u (by omega)
  by_cases e : j = atC l u
  · rw [e]; exact h3
  · have := asc_get ha (show atC l u < j by omega) h2
    omega
theorem cmpI_neg (a b : Int) : cmpI a b < 0 ↔ a < b := by
  unfold cmpI
  split
  · rename_i h; simp [h]
  · split <;> simp <;> omega
theorem cmpI_zero (a b : Int) : cmpI a b = 0 ↔ a = b := by
  unfold cmpI
  split
  · rename_i h; simp; omega
  · split <;> simp <;> omega
def hasU (l : List Came) (u : Int) : Bool := l.any fun c => decide (c.Unit = u)
theorem found_iff {l : List Came} (ha : l.Pairwise fun a b => a.Unit < b.Unit) (u : Int) : (decide ((atC l u : Int) < l.length) && decide (cmpU u (l.getD (atC l u) default) = 0)) = hasU l u := by
  rw [Bool.eq_iff_iff]
  simp only [Bool.and_eq_true, decide_eq_true_eq, hasU, List.any_eq_true, cmpU, cmpI_zero]
  constructor
  · rintro ⟨h1, h2⟩
    exact ⟨_, getD_mem l default _ (by omega), h2⟩
  · rintro ⟨c, hc, e⟩
    obtain ⟨k, hk, ek⟩ := List.mem_iff_getElem.1 hc
    have hck : (l.getD k default).Unit = u := by rw [getD_of_lt l k hk, ek]; exact e
    have h1 : ¬ k < atC l u := fun h => by have := atC_below l u k h; omega
    have h2 := atC_stop l u (by omega)
    by_cases e2 : k = atC l u
    · rw [← e2]; exact ⟨by omega, hck⟩
    · have := asc_get ha (show atC l u < k by omega) hk
      omega
def addC (l : List Came) (c : Came) : List Came × Int := if (checkC l).2 ≠ 0 then ([], 1) else if aloneC c = false then ([], 2) else if hasU l c.Unit = true then ([], 6) else if clashC l c ≠ 0 then ([], clashC l c) else if 256 ≤ l.length then ([], 8) else (l.insertIdx (atC l c.Unit) c, 0)
theorem s17 (l : List Came) (c : Came) : Spec Try.prog 17 [cames l, c.sv] (.tup [cames (addC l c).1, .int .i64 (addC l c).2]) := by
  refine spec_of_good mixed Try.func17 F17_ok (by kernel_rfl) ?_
  refine good_run 11 (obs := []) (by kernel_rfl) trivial ?_
  refine good_call (c := True) (by kernel_rfl) (fun _ => SVles.refl _) (fun _ => s39 (l)) (by kernel_rfl) ?_
  refine good_run 3 (obs := []) (by kernel_rfl) trivial ?_
  refine good_cond (!decide ((checkC l).snd = (0 : Int))) (by kernel_rfl) (fun hc1 => ?_) (fun hc1 => ?_)
  · have e : addC l c = ([], 1) := if_pos (by simpa using hc1)
    rw [e]
    refine good_run 8 (obs := []) (by kernel_rfl) trivial ?_
    refine good_fin [(0 : Nat) = (0 : Nat), (1 : Int) = (1 : Int)] (by kernel_rfl) ⟨rfl, rfl, trivial⟩
  · have hc : (checkC l).2 = 0 := by simpa using hc1
    have hR := (right_iff l).1 hc
    have hll := hR.len
    refine good_run 5 (obs := [(0 : Nat) + (4 : Nat) ≤ (4 : Nat)]) (by kernel_rfl) (by (first | omega | assumption | exact ⟨rfl, trivial⟩ | simp only [AllP, inK_iff, roomOK_iff, decide_eq_true_eq, Bool.and_eq_true, Bool.or_eq_true, Bool.not_eq_true', decide_eq_false_iff_not, and_true, true_and]; (first | omega | (and_intros <;> intros <;> (try and_intros) <;> first | omega | assumption | exact trivial)))) ?_
    refine good_call (c := True) (by kernel_rfl) (fun _ => SVles.refl _) (fun _ => s33 (c)) (by kernel_rfl) ?_
    refine good_run 3 (obs := []) (by kernel_rfl) trivial ?_
    refine good_cond (!aloneC c) (by kernel_rfl) (fun hc2 => ?_) (fun hc2 => ?_)
    · have e : addC l c = ([], 2) := by rw [addC, if_neg (by simp [hc]), if_pos (by simpa using hc2)]
      rw [e]
      refine good_run 8 (obs := []) (by kernel_rfl) trivial ?_
      refine good_fin [(0 : Nat) = (0 : Nat), (2 : Int) = (2 : Int)] (by kernel_rfl) ⟨rfl, rfl, trivial⟩
    · have ha : aloneC c = true := by simpa using hc2
      refine good_run 6 (obs := []) (by kernel_rfl) trivial ?_
      refine good_call (c := True) (by kernel_rfl) (fun _ => SVles.refl _) (fun _ => s40 l c.Unit 41 [] (cmpU c.Unit) (fun p => s41 p c.Unit) (atC l c.Unit) (atC_le l c.Unit) (by omega) (fun j hj => (cmpI_neg _ _).2 (atC_below l c.Unit j hj)) (fun j h1 h2 => by have := atC_above hR.asc c.Unit j h1 h2; have h3 := cmpI_neg (l.getD j default).Unit c.Unit; unfold cmpU; omega)) (by kernel_rfl) ?_
      rw [found_iff hR.asc]
      refine good_run 11 (obs := [(0 : Nat) + (4 : Nat) ≤ (4 : Nat)]) (by kernel_rfl) (by (first | omega | assumption | exact ⟨rfl, trivial⟩ | simp only [AllP, inK_iff, roomOK_iff, decide_eq_true_eq, Bool.and_eq_true, Bool.or_eq_true, Bool.not_eq_true', decide_eq_false_iff_not, and_true, true_and]; (first | omega | (and_intros <;> intros <;> (try and_intros) <;> first | omega | assumption | exact trivial)))) ?_
      refine good_call (c := True) (by kernel_rfl) (fun _ => SVles.refl _) (fun _ => s34 (l) (c)) (by kernel_rfl) ?_
      refine good_run 11 (obs := []) (by kernel_rfl) trivial ?_
      refine good_cond (hasU l c.Unit) (by kernel_rfl) (fun hc3 => ?_) (fun hc3 => ?_)
      · have e : addC l c = ([], 6) := by rw [addC, if_neg (by simp [hc]), if_neg (by rw [ha]; decide), if_pos hc3]
        rw [e]
        refine good_run 9 (obs := []) (by kernel_rfl) trivial ?_
        refine good_fin [(0 : Nat) = (0 : Nat), (6 : Int) = (6 : Int)] (by kernel_rfl) ⟨rfl, rfl, trivial⟩
      · have hu : ¬ hasU l c.Unit = true := by rw [hc3]; decide
        refine good_run 7 (obs := []) (by kernel_rfl) trivial ?_
        refine good_cond (!decide (clashC l c = (0 : Int))) (by kernel_rfl) (fun hc4 => ?_) (fun hc4 => ?_)
        · have e : addC l c = ([], clashC l c) := by rw [addC, if_neg (by simp [hc]), if_neg (by rw [ha]; decide), if_neg hu, if_pos (by simpa using hc4)]
          rw [e]
          refine good_run 10 (obs := []) (by kernel_rfl) trivial ?_
          refine good_fin [(0 : Nat) = (0 : Nat), clashC l c = clashC l c] (by kernel_rfl) ⟨rfl, rfl, trivial⟩
        · have hcl : ¬ clashC l c ≠ 0 := by simpa using hc4
          refine good_run 8 (obs := []) (by kernel_rfl) trivial ?_
          refine good_cond (decide ((256 : Int) ≤ (↑(List.length l) : Int))) (by kernel_rfl) (fun hc5 => ?_) (fun hc5 => ?_)
          · have e : addC l c = ([], 8) := by rw [addC, if_neg (by simp [hc]), if_neg (by rw [ha]; decide), if_neg hu, if_neg hcl, if_pos (by simp at hc5; omega)]
            rw [e]
            refine good_run 9 (obs := []) (by kernel_rfl) trivial ?_
            refine good_fin [(0 : Nat) = (0 : Nat), (8 : Int) = (8 : Int)] (by kernel_rfl) ⟨rfl, rfl, trivial⟩
          · have hlt : ¬ 256 ≤ l.length := by simp at hc5; omega
            have e : addC l c = (l.insertIdx (atC l c.Unit) c, 0) := by rw [addC, if_neg (by simp [hc]), if_neg (by rw [ha]; decide), if_neg hu, if_neg hcl, if_neg hlt]
            have hat := atC_le l c.Unit
            rw [e]
            have hj : l.length + 1 = (l.insertIdx (atC l c.Unit) c).length ∧ ∀ i, i < l.length + 1 → insGet (atC l c.Unit) (cutRows 4 c.cells 0) (fun i => (l.getD i default).cells) i = ((l.insertIdx (atC l c.Unit) c).getD i default).cells := by
              refine ⟨by rw [List.length_insertIdx]; simp [hat], fun i hi => ?_⟩
              rw [← insGet_list Came.cells default l _ c hat i hi]
              rfl
            refine good_run 7 (obs := []) (by kernel_rfl) trivial ?_
            refine good_pick [1, 3] (by kernel_rfl) ⟨?_, ?_, trivial⟩
            refine good_own (c := True) (by kernel_rfl) (by kernel_rfl) (SVles.refl _) (s13 (List.length l) (fun i => Came.cells (List.getD l i default)) (by (first | omega | assumption | exact ⟨rfl, trivial⟩ | simp only [AllP, inK_iff, roomOK_iff, decide_eq_true_eq, Bool.and_eq_true, Bool.or_eq_true, Bool.not_eq_true', decide_eq_false_iff_not, and_true, true_and]; (first | omega | (and_intros <;> intros <;> (try and_intros) <;> first | omega | assumption | exact trivial))))) ?_
            refine good_run 8 (obs := [(0 : Nat) + (4 : Nat) ≤ (4 : Nat)]) (by kernel_rfl) (by (first | omega | assumption | exact ⟨rfl, trivial⟩ | simp only [AllP, inK_iff, roomOK_iff, decide_eq_true_eq, Bool.and_eq_true, Bool.or_eq_true, Bool.not_eq_true', decide_eq_false_iff_not, and_true, true_and]; (first | omega | (and_intros <;> intros <;> (try and_intros) <;> first | omega | assumption | exact trivial)))) ?_
            refine good_take (by kernel_rfl) (SVles.refl _) (SVles.refl _) (s43 (List.length l) (fun i => Came.cells (List.getD l i default)) (cutRows (4 : Nat) [SV.int IntKind.i64 c.Unit, SV.int IntKind.i64 c.Office, SV.int IntKind.i64 c.Acc, SV.int IntKind.i64 c.Num]) ((↑(atC l c.Unit) : Int)) (by (first | omega | assumption | exact ⟨rfl, trivial⟩ | simp only [AllP, inK_iff, roomOK_iff, decide_eq_true_eq, Bool.and_eq_true, Bool.or_eq_true, Bool.not_eq_true', decide_eq_false_iff_not, and_true, true_and]; (first | omega | (and_intros <;> intros <;> (try and_intros) <;> first | omega | assumption | exact trivial)))) (by (first | omega | assumption | exact ⟨rfl, trivial⟩ | simp only [AllP, inK_iff, roomOK_iff, decide_eq_true_eq, Bool.and_eq_true, Bool.or_eq_true, Bool.not_eq_true', decide_eq_false_iff_not, and_true, true_and]; (first | omega | (and_intros <;> intros <;> (try and_intros) <;> first | omega | assumption | exact trivial)))) (by (first | omega | assumption | exact ⟨rfl, trivial⟩ | simp only [AllP, inK_iff, roomOK_iff, decide_eq_true_eq, Bool.and_eq_true, Bool.or_eq_true, Bool.not_eq_true', decide_eq_false_iff_not, and_true, true_and]; (first | omega | (and_intros <;> intros <;> (try and_intros) <;> first | omega | assumption | exact trivial))))) ?_
            refine good_run 10 (obs := []) (by kernel_rfl) trivial ?_
            refine good_fin [List.length l + (1 : Nat) = List.length (List.insertIdx l (atC l c.Unit) c, (0 : Int)).fst ∧ ∀ (i : Nat), i < List.length l + (1 : Nat) → insGet (atC l c.Unit) (cutRows (4 : Nat) [SV.int IntKind.i64 c.Unit, SV.int IntKind.i64 c.Office, SV.int IntKind.i64 c.Acc, SV.int IntKind.i64 c.Num] (0 : Nat)) (fun i => Came.cells (List.getD l i default)) i = (fun i => Came.cells (List.getD (List.insertIdx l (atC l c.Unit) c, (0 : Int)).fst i default)) i, (0 : Int) = (0 : Int)] (by kernel_rfl) ⟨?_, rfl, trivial⟩
            rotate_left 1
            refine good_run 2 (obs := [(0 : Nat) + (4 : Nat) ≤ (4 : Nat)]) (by kernel_rfl) (by (first | omega | assumption | exact ⟨rfl, trivial⟩ | simp only [AllP, inK_iff, roomOK_iff, decide_eq_true_eq, Bool.and_eq_true, Bool.or_eq_true, Bool.not_eq_true', decide_eq_false_iff_not, and_true, true_and]; (first | omega | (and_intros <;> intros <;> (try and_intros) <;> first | omega | assumption | exact trivial)))) ?_
            refine good_pick [1, 4] (by kernel_rfl) ⟨?_, ?_, trivial⟩
            refine good_own (c := True) (by kernel_rfl) (by kernel_rfl) (SVles.refl _) (s13 (List.length l) (fun i => Came.cells (List.getD l i default)) (by (first | omega | assumption | exact ⟨rfl, trivial⟩ | simp only [AllP, inK_iff, roomOK_iff, decide_eq_true_eq, Bool.and_eq_true, Bool.or_eq_true, Bool.not_eq_true', decide_eq_false_iff_not, and_true, true_and]; (first | omega | (and_intros <;> intros <;> (try and_intros) <;> first | omega | assumption | exact trivial))))) ?_
            refine good_run 5 (obs := []) (by kernel_rfl) trivial ?_
            refine good_take (by kernel_rfl) (SVles.refl _) (SVles.refl _) (s43 (List.length l) (fun i => Came.cells (List.getD l i default)) (cutRows (4 : Nat) [SV.int IntKind.i64 c.Unit, SV.int IntKind.i64 c.Office, SV.int IntKind.i64 c.Acc, SV.int IntKind.i64 c.Num]) ((↑(atC l c.Unit) : Int)) (by (first | omega | assumption | exact ⟨rfl, trivial⟩ | simp only [AllP, inK_iff, roomOK_iff, decide_eq_true_eq, Bool.and_eq_true, Bool.or_eq_true, Bool.not_eq_true', decide_eq_false_iff_not, and_true, true_and]; (first | omega | (and_intros <;> intros <;> (try and_intros) <;> first | omega | assumption | exact trivial)))) (by (first | omega | assumption | exact ⟨rfl, trivial⟩ | simp only [AllP, inK_iff, roomOK_iff, decide_eq_true_eq, Bool.and_eq_true, Bool.or_eq_true, Bool.not_eq_true', decide_eq_false_iff_not, and_true, true_and]; (first | omega | (and_intros <;> intros <;> (try and_intros) <;> first | omega | assumption | exact trivial)))) (by (first | omega | assumption | exact ⟨rfl, trivial⟩ | simp only [AllP, inK_iff, roomOK_iff, decide_eq_true_eq, Bool.and_eq_true, Bool.or_eq_true, Bool.not_eq_true', decide_eq_false_iff_not, and_true, true_and]; (first | omega | (and_intros <;> intros <;> (try and_intros) <;> first | omega | assumption | exact trivial))))) ?_
            refine good_run 10 (obs := []) (by kernel_rfl) trivial ?_
            refine good_fin [List.length l + (1 : Nat) = List.length (List.insertIdx l (atC l c.Unit) c, (0 : Int)).fst ∧ ∀ (i : Nat), i < List.length l + (1 : Nat) → insGet (atC l c.Unit) (cutRows (4 : Nat) [SV.int IntKind.i64 c.Unit, SV.int IntKind.i64 c.Office, SV.int IntKind.i64 c.Acc, SV.int IntKind.i64 c.Num] (0 : Nat)) (fun i => Came.cells (List.getD l i default)) i = (fun i => Came.cells (List.getD (List.insertIdx l (atC l c.Unit) c, (0 : Int)).fst i default)) i, (0 : Int) = (0 : Int)] (by kernel_rfl) ⟨?_, rfl, trivial⟩
            rotate_left 1
            refine good_run 3 (obs := []) (by kernel_rfl) trivial ?_
            refine good_own (c := True) (by kernel_rfl) (by kernel_rfl) (SVles.refl _) (s13 (List.length l) (fun i => Came.cells (List.getD l i default)) (by (first | omega | assumption | exact ⟨rfl, trivial⟩ | simp only [AllP, inK_iff, roomOK_iff, decide_eq_true_eq, Bool.and_eq_true, Bool.or_eq_true, Bool.not_eq_true', decide_eq_false_iff_not, and_true, true_and]; (first | omega | (and_intros <;> intros <;> (try and_intros) <;> first | omega | assumption | exact trivial))))) ?_
            refine good_run 2 (obs := []) (by kernel_rfl) trivial ?_
            refine good_take (by kernel_rfl) (SVles.refl _) (SVles.refl _) (s43 (List.length l) (fun i => Came.cells (List.getD l i default)) (cutRows (4 : Nat) [SV.int IntKind.i64 c.Unit, SV.int IntKind.i64 c.Office, SV.int IntKind.i64 c.Acc, SV.int IntKind.i64 c.Num]) ((↑(atC l c.Unit) : Int)) (by (first | omega | assumption | exact ⟨rfl, trivial⟩ | simp only [AllP, inK_iff, roomOK_iff, decide_eq_true_eq, Bool.and_eq_true, Bool.or_eq_true, Bool.not_eq_true', decide_eq_false_iff_not, and_true, true_and]; (first | omega | (and_intros <;> intros <;> (try and_intros) <;> first | omega | assumption | exact trivial)))) (by (first | omega | assumption | exact ⟨rfl, trivial⟩ | simp only [AllP, inK_iff, roomOK_iff, decide_eq_true_eq, Bool.and_eq_true, Bool.or_eq_true, Bool.not_eq_true', decide_eq_false_iff_not, and_true, true_and]; (first | omega | (and_intros <;> intros <;> (try and_intros) <;> first | omega | assumption | exact trivial)))) (by (first | omega | assumption | exact ⟨rfl, trivial⟩ | simp only [AllP, inK_iff, roomOK_iff, decide_eq_true_eq, Bool.and_eq_true, Bool.or_eq_true, Bool.not_eq_true', decide_eq_false_iff_not, and_true, true_and]; (first | omega | (and_intros <;> intros <;> (try and_intros) <;> first | omega | assumption | exact trivial))))) ?_
            refine good_run 10 (obs := []) (by kernel_rfl) trivial ?_
            refine good_fin [List.length l + (1 : Nat) = List.length (List.insertIdx l (atC l c.Unit) c, (0 : Int)).fst ∧ ∀ (i : Nat), i < List.length l + (1 : Nat) → insGet (atC l c.Unit) (cutRows (4 : Nat) [SV.int IntKind.i64 c.Unit, SV.int IntKind.i64 c.Office, SV.int IntKind.i64 c.Acc, SV.int IntKind.i64 c.Num] (0 : Nat)) (fun i => Came.cells (List.getD l i default)) i = (fun i => Came.cells (List.getD (List.insertIdx l (atC l c.Unit) c, (0 : Int)).fst i default)) i, (0 : Int) = (0 : Int)] (by kernel_rfl) ⟨?_, rfl, trivial⟩
            rotate_left 1
            all_goals first | exact hj | skip
end Go.Sx.T
