/- Contracts of functions of the program, each proved by running its code symbolically (HL). -/
import Derived.Test.YtgnffeajpmniiaaHK
namespace Go.Sx.T
open Go Go.Proofs Go.Sx
set_option maxRecDepth 100000
set_option maxHeartbeats 4000000
set_option linter.unusedVariables false
set_option linter.unusedSimpArgs false
section
variable {α : Type} [Inhabited α]
theorem asc_adj {l : List α} {f : α → Int} (h : ∀ j, 0 < j → j < l.length → f (l.getD (j - 1) default) < f (l.getD j default)) : Asc l f := by
  intro i j hij hj
  induction j with
  | zero => omega
  | succ j ih =>
    have h1 := h (j + 1) (by omega) hj
    rw [Nat.add_sub_cancel] at h1
    rcases Nat.lt_or_ge i j with h2 | h2
    · have := ih h2 (by omega); omega
    · have : i = j := by omega
      subst this; exact h1
end
theorem shelves_ok {l : List Shf} (h : shelvesC l = 0) : l.length ≤ 32 ∧ Asc l Shf.ID ∧ ∀ x ∈ l, okS x = true := by
  unfold shelvesC at h
  split at h
  · cases h
  · rename_i hn
    rw [errFrom_zero'] at h
    have h2 : ∀ j, j < l.length → okS (l.getD j default) = true ∧ (0 < j → (l.getD (j - 1) default).ID < (l.getD j default).ID) := fun j hj => by
      have := h j hj
      unfold badS at this
      split at this
      · cases this
      · rename_i h3
        split at this
        · cases this
        · rename_i h4
          refine ⟨by simpa using h3, fun h0 => ?_⟩
          refine Int.not_le.1 fun h5 => h4 ?_
          rw [Bool.and_eq_true, decide_eq_true_eq, decide_eq_true_eq]
          exact ⟨h0, h5⟩
    refine ⟨by omega, asc_adj fun j h0 hj => (h2 j hj).2 h0, fun x hx => ?_⟩
    obtain ⟨i, hi, e⟩ := List.mem_iff_getElem.1 hx
    have := (h2 i hi).1
    rwa [getD_of_lt _ i hi, e] at this
theorem check_ok {b : List Box} (h : check b = 0) : b.length ≤ 128 ∧ Asc b Box.ID ∧ wOK b := by
  unfold check at h
  split at h
  · cases h
  · rename_i hn
    rw [errFrom_zero'] at h
    have h2 : ∀ j, j < b.length → faultB (b.getD j default) = 0 ∧ (0 < j → (b.getD (j - 1) default).ID < (b.getD j default).ID) := fun j hj => by
      have := h j hj
      unfold badAt at this
      split at this
      · rename_i h3; exact absurd this h3
      · rename_i h3
        split at this
        · cases this
        · rename_i h4
          refine ⟨by simpa using h3, fun h0 => ?_⟩
          refine Int.not_le.1 fun h5 => h4 ?_
          rw [Bool.and_eq_true, decide_eq_true_eq, decide_eq_true_eq]
          exact ⟨h0, h5⟩
    refine ⟨by omega, asc_adj fun j h0 hj => (h2 j hj).2 h0, fun x hx => ?_⟩
    obtain ⟨i, hi, e⟩ := List.mem_iff_getElem.1 hx
    have h3 := (h2 i hi).1
    rw [getD_of_lt _ i hi, e] at h3
    unfold faultB at h3
    split at h3
    · cases h3
    · rename_i h4
      simp only [Bool.not_eq_false, formB, hdrOK, inB, Bool.and_eq_true, decide_eq_true_eq] at h4
      omega
def checkS (l : List Shf) (b : List Box) (s : List Std) : Int := if shelvesC l ≠ 0 ∨ check b ≠ 0 then 1 else checkT l b s
theorem checkS_ok {l : List Shf} {b : List Box} {s : List Std} (h : checkS l b s = 0) : shelvesC l = 0 ∧ check b = 0 ∧ checkT l b s = 0 := by
  unfold checkS at h
  split at h
  · cases h
  · rename_i h1
    exact ⟨Classical.not_not.1 fun h2 => h1 (.inl h2), Classical.not_not.1 fun h2 => h1 (.inr h2), h⟩
theorem badBs_ok {b : List Box} {us : List Int} {own : Int} {x : List Int} (h : badBs b us own x = 0) : (∀ id ∈ x, isK b Box.ID id = true ∧ (atK b Box.ID id).Climate = own ∧ id ∉ us) ∧ x.Nodup := by
  unfold badBs at h
  rw [errFrom_zero'] at h
  have h1 : ∀ j, j < x.length → isK b Box.ID (x.getD j 0) = true ∧ x.getD j 0 ∉ us ++ x.take j ∧ (atK b Box.ID (x.getD j 0)).Climate = own := fun j hj => by
    have := h j hj
    unfold badBx at this
    split at this
    · cases this
    · rename_i h2
      split at this
      · cases this
      · rename_i h3
        split at this
        · cases this
        · rename_i h4
          exact ⟨by simpa using h2, fun h5 => h3 (decide_eq_true h5), Classical.not_not.1 h4⟩
  refine ⟨fun id hid => ?_, ?_⟩
  · obtain ⟨i, hi, e⟩ := List.mem_iff_getElem.1 hid
    have h2 := h1 i hi
    rw [getD_of_lt _ i hi, e] at h2
    exact ⟨h2.1, h2.2.2, fun h3 => h2.2.1 (List.mem_append.2 (.inl h3))⟩
  · rw [List.nodup_iff_pairwise_ne, List.pairwise_iff_getElem]
    intro i j hi hj hij e
    have h2 := (h1 j hj).2.1
    refine h2 (List.mem_append.2 (.inr ?_))
    rw [getD_of_lt _ j hj, ← e]
    exact List.mem_iff_getElem.2 ⟨i, by rw [List.length_take]; omega, by rw [List.getElem_take]⟩
structure Right (l : List Shf) (b : List Box) (s : List Std) : Prop where
  l32 : l.length ≤ 32
  al : Asc l Shf.ID
  okl : ∀ x ∈ l, okS x = true
  b128 : b.length ≤ 128
  ab : Asc b Box.ID
  wb : wOK b
  as' : Asc s Std.Shelf
  on : ∀ x ∈ s, isK l Shf.ID x.Shelf = true ∧ x.Boxes ≠ [] ∧ widthI b x.Boxes ≤ (atK l Shf.ID x.Shelf).Length ∧ ∀ id ∈ x.Boxes, isK b Box.ID id = true ∧ (atK b Box.ID id).Climate = (atK l Shf.ID x.Shelf).Climate
  nd : (usedB s).Nodup
theorem badSt_ok {l : List Shf} {b : List Box} {s : List Std} {i : Nat} (h : badSt l b s i = 0) :
    isK l Shf.ID (s.getD i default).Shelf = true ∧ (0 < i → (s.getD (i - 1) default).Shelf < (s.getD i default).Shelf) ∧ (s.getD i default).Boxes ≠ [] ∧ badBs b (usedB (s.take i)) (atK l Shf.ID (s.getD i default).Shelf).Climate (s.getD i default).Boxes = 0 ∧
      widthI b (s.getD i default).Boxes ≤ (atK l Shf.ID (s.getD i default).Shelf).Length := by
  unfold badSt at h
  split at h
  · cases h
  · rename_i h1
    split at h
    · cases h
    · rename_i h2
      split at h
      · cases h
      · rename_i h3
        split at h
        · rename_i h4; exact absurd h h4
        · rename_i h4
          split at h
          · cases h
          · rename_i h5
            refine ⟨by simpa using h1, fun h0 => ?_, fun e => h3 (by rw [e]; rfl), Classical.not_not.1 h4, Int.not_lt.1 h5⟩
            refine Int.not_le.1 fun h6 => h2 ?_
            rw [Bool.and_eq_true, decide_eq_true_eq, decide_eq_true_eq]
            exact ⟨h0, h6⟩
theorem right_of {l : List Shf} {b : List Box} {s : List Std} (h : checkS l b s = 0) : Right l b s := by
  obtain ⟨h1, h2, h3⟩ := checkS_ok h
  obtain ⟨a1, a2, a3⟩ := shelves_ok h1
  obtain ⟨b1, b2, b3⟩ := check_ok h2
  unfold checkT at h3
  rw [errFrom_zero'] at h3
  refine ⟨a1, a2, a3, b1, b2, b3, asc_adj fun j h0 hj => (badSt_ok (h3 j hj)).2.1 h0, fun x hx => ?_, ?_⟩
  · obtain ⟨i, hi, e⟩ := List.mem_iff_getElem.1 hx
    have h4 := badSt_ok (h3 i hi)
    rw [getD_of_lt _ i hi, e] at h4
    obtain ⟨c1, _, c3, c4, c5⟩ := h4
    exact ⟨c1, c3, c5, fun id hid => ⟨((badBs_ok c4).1 id hid).1, ((badBs_ok c4).1 id hid).2.1⟩⟩
  · have : ∀ k, k ≤ s.length → (usedB (s.take k)).Nodup := by
      intro k hk
      induction k with
      | zero => simp [usedB]
      | succ k ih =>
        rw [usedB_take s k (by omega)]
        have h4 := badBs_ok (badSt_ok (h3 k (by omega))).2.2.2.1
        rw [List.nodup_append]
        refine ⟨ih (by omega), h4.2, fun a ha b' hb e => ?_⟩
        subst e
        exact (h4.1 a hb).2.2 ha
    have h5 := this s.length (Nat.le_refl _)
    rwa [List.take_length] at h5
theorem s39 (l : List Shf) (b : List Box) (s : List Std) (hs : s.length ≤ 100000) (hx : ∀ y ∈ s, y.Boxes.length ≤ 100000) : Spec Try.prog 39 [shfs l, boxes b, stds s] (.int .i64 (checkS l b s)) := by
  refine spec_of_good mixed Try.func39 F39_ok (by kernel_rfl) ?_
  refine good_run 9 (obs := []) (by kernel_rfl) trivial ?_
  refine good_call (c := True) (by kernel_rfl) (fun _ => SVles.refl _) (fun _ => s12 (l)) (by kernel_rfl) ?_
  refine good_run 4 (obs := []) (by kernel_rfl) trivial ?_
  refine good_call (c := (!decide (shelvesC l = (0 : Int))) = false ∧ True) (by kernel_rfl) (fun _ => SVles.refl _) (fun _ => s61 (b)) (by kernel_rfl) ?_
  refine good_run 5 (obs := []) (by kernel_rfl) trivial ?_
  refine good_cond (!decide (shelvesC l = (0 : Int)) || !decide (check b = (0 : Int))) (by kernel_rfl) (fun hc1 => ?_) (fun hc1 => ?_)
  · have : checkS l b s = 1 := by
      rw [checkS, if_pos]
      simp only [Bool.or_eq_true, Bool.not_eq_true', decide_eq_false_iff_not] at hc1
      exact hc1
    rw [this]
    refine good_run 7 (obs := []) (by kernel_rfl) trivial ?_
    refine good_fin [(1 : Int) = (1 : Int)] (by kernel_rfl) ⟨rfl, trivial⟩
  · simp only [Bool.or_eq_false_iff, Bool.not_eq_false', decide_eq_true_eq] at hc1
    obtain ⟨a1, a2, a3⟩ := shelves_ok hc1.1
    obtain ⟨b1, b2, b3⟩ := check_ok hc1.2
    have : checkS l b s = checkT l b s := by
      rw [checkS, if_neg]
      rintro (h | h)
      · exact h hc1.1
      · exact h hc1.2
    rw [this]
    have a4 : l.length ≤ 100000 := by omega
    have b4 : b.length ≤ 100000 := by omega
    refine good_run 7 (obs := []) (by kernel_rfl) trivial ?_
    refine good_call (c := True) (by kernel_rfl) (fun _ => SVles.refl _) (fun _ => s62 (l) (b) (s) (by (first | omega | assumption | exact ⟨rfl, trivial⟩ | simp only [AllP, inK_iff, roomOK_iff, decide_eq_true_eq, Bool.and_eq_true, Bool.or_eq_true, Bool.not_eq_true', decide_eq_false_iff_not, and_true, true_and]; (first | omega | (and_intros <;> intros <;> (try and_intros) <;> first | omega | assumption | exact trivial)))) (by (first | omega | assumption | exact ⟨rfl, trivial⟩ | simp only [AllP, inK_iff, roomOK_iff, decide_eq_true_eq, Bool.and_eq_true, Bool.or_eq_true, Bool.not_eq_true', decide_eq_false_iff_not, and_true, true_and]; (first | omega | (and_intros <;> intros <;> (try and_intros) <;> first | omega | assumption | exact trivial)))) (by (first | omega | assumption | exact ⟨rfl, trivial⟩ | simp only [AllP, inK_iff, roomOK_iff, decide_eq_true_eq, Bool.and_eq_true, Bool.or_eq_true, Bool.not_eq_true', decide_eq_false_iff_not, and_true, true_and]; (first | omega | (and_intros <;> intros <;> (try and_intros) <;> first | omega | assumption | exact trivial)))) (by (first | omega | assumption | exact ⟨rfl, trivial⟩ | simp only [AllP, inK_iff, roomOK_iff, decide_eq_true_eq, Bool.and_eq_true, Bool.or_eq_true, Bool.not_eq_true', decide_eq_false_iff_not, and_true, true_and]; (first | omega | (and_intros <;> intros <;> (try and_intros) <;> first | omega | assumption | exact trivial)))) (by (first | omega | assumption | exact ⟨rfl, trivial⟩ | simp only [AllP, inK_iff, roomOK_iff, decide_eq_true_eq, Bool.and_eq_true, Bool.or_eq_true, Bool.not_eq_true', decide_eq_false_iff_not, and_true, true_and]; (first | omega | (and_intros <;> intros <;> (try and_intros) <;> first | omega | assumption | exact trivial)))) (by (first | omega | assumption | exact ⟨rfl, trivial⟩ | simp only [AllP, inK_iff, roomOK_iff, decide_eq_true_eq, Bool.and_eq_true, Bool.or_eq_true, Bool.not_eq_true', decide_eq_false_iff_not, and_true, true_and]; (first | omega | (and_intros <;> intros <;> (try and_intros) <;> first | omega | assumption | exact trivial)))) (by (first | omega | assumption | exact ⟨rfl, trivial⟩ | simp only [AllP, inK_iff, roomOK_iff, decide_eq_true_eq, Bool.and_eq_true, Bool.or_eq_true, Bool.not_eq_true', decide_eq_false_iff_not, and_true, true_and]; (first | omega | (and_intros <;> intros <;> (try and_intros) <;> first | omega | assumption | exact trivial))))) (by kernel_rfl) ?_
    refine good_run 4 (obs := []) (by kernel_rfl) trivial ?_
    refine good_fin [checkT l b s = checkT l b s] (by kernel_rfl) ⟨rfl, trivial⟩
theorem s43 (l : List Shf) (b : List Box) (s : List Std) (hs : s.length ≤ 100000) (hx : ∀ y ∈ s, y.Boxes.length ≤ 100000) (h : checkS l b s = 0) : Spec Try.prog 43 [shfs l, boxes b, stds s] (.tup [store l b s, .int .i64 0]) := by
  refine spec_of_good mixed Try.func43 F43_ok (by kernel_rfl) ?_
  have s39 : Spec Try.prog 39 [shfs l, boxes b, stds s] (.int .i64 0) := h ▸ s39 l b s hs hx
  refine good_run 12 (obs := []) (by kernel_rfl) trivial ?_
  refine good_call (c := True) (by kernel_rfl) (fun _ => SVles.refl _) (fun _ => s39) (by kernel_rfl) ?_
  refine good_run 3 (obs := []) (by kernel_rfl) trivial ?_
  refine good_cond false (by kernel_rfl) (fun h => nomatch h) (fun _ => ?_)
  refine good_run 12 (obs := [(3 : Nat) = (3 : Nat) ∧ (0 : Nat) + (3 : Nat) ≤ (3 : Nat)]) (by kernel_rfl) (by (first | omega | assumption | exact ⟨rfl, trivial⟩ | simp only [AllP, inK_iff, roomOK_iff, decide_eq_true_eq, Bool.and_eq_true, Bool.or_eq_true, Bool.not_eq_true', decide_eq_false_iff_not, and_true, true_and]; (first | omega | (and_intros <;> intros <;> (try and_intros) <;> first | omega | assumption | exact trivial)))) ?_
  refine good_fin [List.length l = List.length l ∧ ∀ (i : Nat), i < List.length l → (fun i => Shf.cells (List.getD l i default)) i = (fun i => Shf.cells (List.getD l i default)) i, List.length b = List.length b ∧ ∀ (i : Nat), i < List.length b → (fun i => Box.cells (List.getD b i default)) i = (fun i => Box.cells (List.getD b i default)) i, List.length s = List.length s ∧ ∀ (i : Nat), i < List.length s → (fun i => Std.cells (List.getD s i default)) i = (fun i => Std.cells (List.getD s i default)) i, (0 : Int) = (0 : Int)] (by kernel_rfl) ⟨⟨rfl, fun _ _ => rfl⟩, ⟨rfl, fun _ _ => rfl⟩, ⟨rfl, fun _ _ => rfl⟩, rfl, trivial⟩
theorem s43a (l : List Shf) (b : List Box) (s : List Std) (hs : s.length ≤ 100000) (hx : ∀ y ∈ s, y.Boxes.length ≤ 100000) (h : checkS l b s ≠ 0) : Spec Try.prog 43 [shfs l, boxes b, stds s] (.tup [store [] [] [], .int .i64 1]) := by
  refine spec_of_good mixed Try.func43 F43_ok (by kernel_rfl) ?_
  refine good_run 12 (obs := []) (by kernel_rfl) trivial ?_
  refine good_call (c := True) (by kernel_rfl) (fun _ => SVles.refl _) (fun _ => s39 (l) (b) (s) (by (first | omega | assumption | exact ⟨rfl, trivial⟩ | simp only [AllP, inK_iff, roomOK_iff, decide_eq_true_eq, Bool.and_eq_true, Bool.or_eq_true, Bool.not_eq_true', decide_eq_false_iff_not, and_true, true_and]; (first | omega | (and_intros <;> intros <;> (try and_intros) <;> first | omega | assumption | exact trivial)))) (by (first | omega | assumption | exact ⟨rfl, trivial⟩ | simp only [AllP, inK_iff, roomOK_iff, decide_eq_true_eq, Bool.and_eq_true, Bool.or_eq_true, Bool.not_eq_true', decide_eq_false_iff_not, and_true, true_and]; (first | omega | (and_intros <;> intros <;> (try and_intros) <;> first | omega | assumption | exact trivial))))) (by kernel_rfl) ?_
  refine good_run 3 (obs := []) (by kernel_rfl) trivial ?_
  refine good_cond (!decide (checkS l b s = (0 : Int))) (by kernel_rfl) (fun hc1 => ?_) (fun hc1 => ?_)
  refine good_run 9 (obs := [(3 : Nat) = (3 : Nat) ∧ (0 : Nat) + (3 : Nat) ≤ (3 : Nat)]) (by kernel_rfl) (by (first | omega | assumption | exact ⟨rfl, trivial⟩ | simp only [AllP, inK_iff, roomOK_iff, decide_eq_true_eq, Bool.and_eq_true, Bool.or_eq_true, Bool.not_eq_true', decide_eq_false_iff_not, and_true, true_and]; (first | omega | (and_intros <;> intros <;> (try and_intros) <;> first | omega | assumption | exact trivial)))) ?_
  refine good_fin [(0 : Nat) = (0 : Nat), (0 : Nat) = (0 : Nat), (0 : Nat) = (0 : Nat), (1 : Int) = (1 : Int)] (by kernel_rfl) ⟨rfl, rfl, rfl, rfl, trivial⟩
  simp only [Bool.not_eq_false', decide_eq_true_eq] at hc1
  exact absurd hc1 h
end Go.Sx.T
