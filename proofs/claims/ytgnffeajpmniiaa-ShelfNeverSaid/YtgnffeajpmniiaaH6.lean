/- Contracts of functions of the program, each proved by running its code symbolically (H6). -/
import Derived.Test.YtgnffeajpmniiaaH5
namespace Go.Sx.T
open Go Go.Proofs Go.Sx
set_option maxRecDepth 100000
set_option maxHeartbeats 4000000
set_option linter.unusedVariables false
set_option linter.unusedSimpArgs false
theorem asc_pair {l : List Std} : Asc l Std.Shelf ↔ l.Pairwise (fun x y => x.Shelf < y.Shelf) := by
  rw [List.pairwise_iff_getElem]
  constructor
  · intro h i j hi hj hij
    have := h i j hij hj
    rwa [getD_of_lt _ i hi, getD_of_lt _ j hj] at this
  · intro h i j hij hj
    rw [getD_of_lt _ i (by omega), getD_of_lt _ j hj]
    exact h i j (by omega) hj hij
/-- What a row of stands must be, apart from the shelves and the boxes. -/
structure Fit (l : List Shf) (b : List Box) (s : List Std) : Prop where
  as' : Asc s Std.Shelf
  on : ∀ x ∈ s, isK l Shf.ID x.Shelf = true ∧ x.Boxes ≠ [] ∧ widthI b x.Boxes ≤ (atK l Shf.ID x.Shelf).Length ∧ ∀ id ∈ x.Boxes, isK b Box.ID id = true ∧ (atK b Box.ID id).Climate = (atK l Shf.ID x.Shelf).Climate
  nd : (usedB s).Nodup
theorem check_fit {l : List Shf} {b : List Box} {s m : List Std} (h : checkS l b s = 0) (hm : Fit l b m) : checkS l b m = 0 := by
  obtain ⟨h1, h2, _⟩ := checkS_ok h
  rw [checkS, if_neg (fun g => g.elim (fun g => g h1) (fun g => g h2)), checkT, errFrom_zero']
  intro i hi
  obtain ⟨o1, o2, o3, o4⟩ := hm.on _ (getD_mem m default i hi)
  obtain ⟨n1, n2⟩ := nodup_boxes hm.nd i hi
  have hb : badBs b (usedB (m.take i)) (atK l Shf.ID (m.getD i default).Shelf).Climate (m.getD i default).Boxes = 0 := by
    rw [badBs, errFrom_zero']
    intro j hj
    obtain ⟨q1, q2⟩ := o4 _ (getD_mem _ 0 j hj)
    rw [badBx, if_neg (by rw [q1]; decide), if_neg, if_neg (fun g => g q2)]
    rw [decide_eq_true_eq, List.mem_append]
    rintro (g | g)
    · obtain ⟨p, hp, hx⟩ := (mem_usedB _ _).1 g
      rw [List.length_take] at hp
      rw [getD_take _ _ _ (by omega)] at hx
      exact n2 p (by omega) _ (getD_mem _ 0 j hj) hx
    · obtain ⟨p, hp, e⟩ := List.mem_iff_getElem.1 g
      rw [List.length_take] at hp
      rw [List.getElem_take, getD_of_lt _ j hj] at e
      rw [List.nodup_iff_pairwise_ne, List.pairwise_iff_getElem] at n1
      exact n1 p j (by omega) hj (by omega) e
  rw [badSt, if_neg (by rw [o1]; decide), if_neg, if_neg (fun e => o2 (List.length_eq_zero_iff.1 e)), if_neg (fun g => g hb), if_neg (by omega)]
  rw [Bool.and_eq_true, decide_eq_true_eq, decide_eq_true_eq]
  rintro ⟨g1, g2⟩
  have := hm.as' (i - 1) i (by omega) hi
  omega
theorem widthI_perm (b : List Box) {x y : List Int} (h : x.Perm y) : widthI b x = widthI b y := by
  induction h with
  | nil => rfl
  | cons a _ ih => simp only [widthI, ih]
  | swap a c r => simp only [widthI]; omega
  | trans _ _ h1 h2 => rw [h1, h2]
theorem ins_perm (x : List Int) (k : Nat) (id : Int) (h : k ≤ x.length) : (x.insertIdx k id).Perm (id :: x) := by
  rw [insertIdx_eq id x k h]
  have := List.perm_middle (a := id) (l₁ := x.take k) (l₂ := x.drop k)
  rwa [List.take_append_drop] at this
theorem placeL_split {s : List Std} (id to : Int) (k : Nat) (has : Asc s Std.Shelf) (hk : k ≤ (boxesOf s to).length) : ∃ A B C : List Std, s = A ++ (C ++ B) ∧ placeL s id to k = A ++ ⟨to, (boxesOf s to).insertIdx k id⟩ :: B ∧ A.length = posK s Std.Shelf to ∧
    ((C = [] ∧ boxesOf s to = [] ∧ isK s Std.Shelf to = false) ∨ (C = [⟨to, boxesOf s to⟩] ∧ isK s Std.Shelf to = true)) ∧ (∀ a ∈ A, a.Shelf < to) ∧ ∀ c ∈ B, to < c.Shelf := by
  have hpl := posK_le s Std.Shelf to
  have hA : ∀ a ∈ s.take (posK s Std.Shelf to), a.Shelf < to := by
    intro a ha
    obtain ⟨j, hj, e⟩ := List.mem_iff_getElem.1 ha
    rw [List.length_take] at hj
    rw [List.getElem_take] at e
    have := posK_below Std.Shelf to s j (by omega)
    rwa [getD_of_lt _ j (by omega), e] at this
  rcases hasK_cases has to with ⟨g1, g2, g3, g4⟩ | ⟨hp, g1, g2, g3, _, g5⟩
  · have e1 : boxesOf s to = [] := by rw [boxesOf, g3]; rfl
    rw [e1] at hk ⊢
    obtain rfl : k = 0 := by simpa using hk
    refine ⟨s.take (posK s Std.Shelf to), s.drop (posK s Std.Shelf to), [], by simp, ?_, by rw [List.length_take]; omega, .inl ⟨rfl, rfl, g2⟩, hA, fun c hc => ?_⟩
    · rw [placeL, if_neg (by rw [g2]; decide), insertIdx_eq _ _ _ hpl]; rfl
    · obtain ⟨j, hj, e⟩ := List.mem_iff_getElem.1 hc
      rw [List.length_drop] at hj
      rw [List.getElem_drop] at e
      have h1 := posK_above has to (posK s Std.Shelf to + j) (by omega) (by omega)
      rw [getD_of_lt _ _ (by omega), e] at h1
      rcases isK_cases s Std.Shelf to with ⟨_, _, _, h2⟩ | ⟨_, _, h2, _⟩
      · have := h2 c (List.mem_of_mem_drop hc)
        omega
      · rw [g2] at h2; cases h2
  · have e1 : boxesOf s to = (s.getD (posK s Std.Shelf to) default).Boxes := by rw [boxesOf, g3]
    have e2 : s.getD (posK s Std.Shelf to) default = ⟨to, boxesOf s to⟩ := by
      rw [e1]
      cases h : s.getD (posK s Std.Shelf to) default
      rw [h] at g5
      simp only at g5
      rw [g5]
    refine ⟨s.take (posK s Std.Shelf to), s.drop (posK s Std.Shelf to + 1), [⟨to, boxesOf s to⟩], ?_, ?_, by rw [List.length_take]; omega, .inr ⟨rfl, g2⟩, hA, fun c hc => ?_⟩
    · rw [← e2, List.singleton_append, ← drop_cons s default _ hp, List.take_append_drop]
    · rw [placeL, if_pos g2, List.set_eq_take_append_cons_drop, if_pos hp]
    · obtain ⟨j, hj, e⟩ := List.mem_iff_getElem.1 hc
      rw [List.length_drop] at hj
      rw [List.getElem_drop] at e
      have h1 := has (posK s Std.Shelf to) (posK s Std.Shelf to + 1 + j) (by omega) (by omega)
      rw [getD_of_lt _ (posK s Std.Shelf to + 1 + j) (by omega), e, g5] at h1
      exact h1
/-- What Place needs. -/
structure Can (l : List Shf) (b : List Box) (s : List Std) (id to at' : Int) : Prop where
  c : checkS l b s = 0
  hb : isK b Box.ID id = true
  hl : isK l Shf.ID to = true
  f : (findP id 0 s).1 < 0
  a : 0 ≤ at' ∧ at' ≤ (boxesOf s to).length
  k : (atK b Box.ID id).Climate = (atK l Shf.ID to).Climate
  w : (atK b Box.ID id).Width ≤ roomI b s (atK l Shf.ID to)
theorem placeR_cases (l : List Shf) (b : List Box) (s : List Std) (x0 x1 x2 : Int) : ((placeR l b s x0 x1 x2).2 ≠ 0 ∧ (placeR l b s x0 x1 x2).1 = []) ∨ (Can l b s x0 x1 x2 ∧ placeR l b s x0 x1 x2 = (placeL s x0 x1 x2.toNat, 0)) := by
  unfold placeR
  split
  · exact .inl ⟨by decide, rfl⟩
  rename_i h1
  unfold placeQ
  split
  · exact .inl ⟨by decide, rfl⟩
  rename_i h2
  split
  · exact .inl ⟨by decide, rfl⟩
  rename_i h3
  split
  · exact .inl ⟨by decide, rfl⟩
  rename_i h4
  split
  · exact .inl ⟨by decide, rfl⟩
  rename_i h5
  split
  · exact .inl ⟨by decide, rfl⟩
  rename_i h6
  refine .inr ⟨⟨Classical.not_not.1 h1, ?_, ?_, by omega, ?_, Classical.not_not.1 h5, by omega⟩, rfl⟩
  · exact Bool.not_eq_false _ ▸ fun h => h2 (.inl h)
  · exact Bool.not_eq_false _ ▸ fun h => h2 (.inr h)
  · have : inB x2 0 (boxesOf s x1).length = true := Bool.not_eq_false _ ▸ h4
    simpa [inB] using this
section
variable {l : List Shf} {b : List Box} {s : List Std} {id to at' : Int}
theorem not_used (h : (findP id 0 s).1 < 0) : id ∉ usedB s := by
  rcases findP_cases id s 0 with ⟨_, g⟩ | ⟨j, k, _, _, g, _⟩
  · exact g
  · rw [g] at h
    exact absurd h (by show ¬ ((0 + j : Nat) : Int) < 0; omega)
theorem place_fit (h : Can l b s id to at') : Fit l b (placeL s id to at'.toNat) := by
  have hR := right_of h.c
  have ha := h.a
  obtain ⟨A, B, C, e1, e2, _, hC, hA, hB⟩ := placeL_split id to at'.toNat hR.as' (by omega)
  have hid := atK_id l Shf.ID to h.hl
  have hw := h.w
  rw [roomI, hid] at hw
  have hp := ins_perm (boxesOf s to) at'.toNat id (by omega)
  have hpw := widthI_perm b hp
  rw [widthI] at hpw
  have hin : ∀ x, x ∈ A ∨ x ∈ B → x ∈ s := by
    intro x hx
    rw [e1]
    rcases hx with hx | hx
    · exact List.mem_append.2 (.inl hx)
    · exact List.mem_append.2 (.inr (List.mem_append.2 (.inr hx)))
  have hbo : ∀ q ∈ boxesOf s to, isK b Box.ID q = true ∧ (atK b Box.ID q).Climate = (atK l Shf.ID to).Climate := by
    rcases hC with ⟨_, e, _⟩ | ⟨e, _⟩
    · rw [e]; intro q hq; cases hq
    · have : (⟨to, boxesOf s to⟩ : Std) ∈ A ++ (C ++ B) := by rw [e]; simp
      rw [← e1] at this
      exact (hR.on _ this).2.2.2
  have hu : (usedB (placeL s id to at'.toNat)).Perm (id :: usedB s) := by
    have e3 : usedB s = usedB A ++ (boxesOf s to ++ usedB B) := by
      have : usedB C = boxesOf s to := by
        rcases hC with ⟨e, e', _⟩ | ⟨e, _⟩
        · rw [e, e']; rfl
        · rw [e]; simp [usedB]
      calc usedB s = usedB (A ++ (C ++ B)) := by rw [← e1]
        _ = _ := by rw [usedB_append, usedB_append, this]
    rw [e2, e3, usedB_append]
    simp only [usedB]
    refine ((hp.append_right (usedB B)).append_left (usedB A)).trans ?_
    exact List.perm_middle
  rw [e2] at hu ⊢
  refine ⟨?_, ?_, ?_⟩
  · rw [asc_pair]
    have has := asc_pair.1 hR.as'
    rw [e1, List.pairwise_append] at has
    obtain ⟨q1, q2, q3⟩ := has
    rw [List.pairwise_append] at q2
    rw [List.pairwise_append]
    refine ⟨q1, List.pairwise_cons.2 ⟨hB, q2.2.1⟩, fun a ha' c hc => ?_⟩
    rcases List.mem_cons.1 hc with h' | h'
    · subst h'; exact hA a ha'
    · exact q3 a ha' c (List.mem_append.2 (.inr h'))
  · intro x hx
    rw [List.mem_append, List.mem_cons] at hx
    have : x = ⟨to, (boxesOf s to).insertIdx at'.toNat id⟩ ∨ x ∈ s := by
      rcases hx with hx | hx | hx
      · exact .inr (hin x (.inl hx))
      · exact .inl hx
      · exact .inr (hin x (.inr hx))
    rcases this with h' | h'
    · subst h'
      refine ⟨h.hl, fun e => ?_, ?_, fun q hq => ?_⟩
      · have := hp.length_eq
        simp only at e
        rw [e] at this
        simp at this
      · show widthI b _ ≤ _
        rw [hpw]
        show _ ≤ (atK l Shf.ID to).Length
        omega
      · rcases List.mem_cons.1 (hp.mem_iff.1 hq) with h'' | h''
        · subst h''; exact ⟨h.hb, h.k⟩
        · exact hbo q h''
    · exact hR.on x h'
  · exact hu.nodup_iff.2 (List.nodup_cons.2 ⟨not_used h.f, hR.nd⟩)
theorem place_check (h : Can l b s id to at') : checkS l b (placeL s id to at'.toNat) = 0 := check_fit h.c (place_fit h)
end
end Go.Sx.T
