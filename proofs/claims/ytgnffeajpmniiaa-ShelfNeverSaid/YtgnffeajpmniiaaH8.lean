/- Contracts of functions of the program, each proved by running its code symbolically (H8). -/
import Derived.Test.YtgnffeajpmniiaaH7
namespace Go.Sx.T
open Go Go.Proofs Go.Sx
set_option maxRecDepth 100000
set_option maxHeartbeats 4000000
set_option linter.unusedVariables false
set_option linter.unusedSimpArgs false
theorem widthI_erase {b : List Box} (h : wOK b) : ∀ (x : List Int) (k : Nat), widthI b (x.eraseIdx k) ≤ widthI b x
  | [], k => by simp
  | i :: x, 0 => by
    have := wOK_at h i
    show widthI b x ≤ (atK b Box.ID i).Width + widthI b x
    omega
  | i :: x, k + 1 => by
    have := widthI_erase h x k
    show (atK b Box.ID i).Width + widthI b (x.eraseIdx k) ≤ (atK b Box.ID i).Width + widthI b x
    omega
theorem usedB_sub : ∀ {x y : List Std}, x.Sublist y → (usedB x).Sublist (usedB y)
  | _, _, .slnil => .slnil
  | _, _, .cons a h => by
    rw [usedB]
    exact (usedB_sub h).trans (List.sublist_append_right _ _)
  | _, _, .cons_cons a h => by
    rw [usedB, usedB]
    exact (List.Sublist.refl _).append (usedB_sub h)
theorem remove_fit {l : List Shf} {b : List Box} {s : List Std} (hR : Right l b s) (i k : Nat) (hi : i < s.length) (hk : k < (s.getD i default).Boxes.length) : Fit l b (removeL s i k) := by
  obtain ⟨o1, o2, o3, o4⟩ := hR.on _ (getD_mem s default i hi)
  unfold removeL
  by_cases h : (s.getD i default).Boxes.length = 1
  · rw [if_pos h]
    refine ⟨asc_pair.2 ((asc_pair.1 hR.as').sublist (List.eraseIdx_sublist _ _)), fun x hx => hR.on x (List.mem_of_mem_eraseIdx hx), hR.nd.sublist (usedB_sub (List.eraseIdx_sublist _ _))⟩
  · rw [if_neg h]
    have es : s = s.take i ++ s.getD i default :: s.drop (i + 1) := by
      rw [← drop_cons s default i hi, List.take_append_drop]
    have em : s.set i ⟨(s.getD i default).Shelf, (s.getD i default).Boxes.eraseIdx k⟩ = s.take i ++ ⟨(s.getD i default).Shelf, (s.getD i default).Boxes.eraseIdx k⟩ :: s.drop (i + 1) := by
      rw [List.set_eq_take_append_cons_drop, if_pos hi]
    refine ⟨?_, fun x hx => ?_, ?_⟩
    · rw [em, asc_pair]
      have has := asc_pair.1 hR.as'
      rw [es, List.pairwise_append, List.pairwise_cons] at has
      obtain ⟨q1, ⟨q2, q3⟩, q4⟩ := has
      rw [List.pairwise_append, List.pairwise_cons]
      refine ⟨q1, ⟨q2, q3⟩, fun a ha c hc => ?_⟩
      rcases List.mem_cons.1 hc with h' | h'
      · subst h'
        have := q4 a ha (s.getD i default) (List.mem_cons_self ..)
        exact this
      · exact q4 a ha c (List.mem_cons_of_mem _ h')
    · rcases List.mem_or_eq_of_mem_set hx with h' | h'
      · exact hR.on x h'
      · subst h'
        refine ⟨o1, fun e => ?_, Int.le_trans (widthI_erase hR.wb _ k) o3, fun id hid => o4 id (List.mem_of_mem_eraseIdx hid)⟩
        have : ((s.getD i default).Boxes.eraseIdx k).length = (s.getD i default).Boxes.length - 1 := by rw [List.length_eraseIdx, if_pos hk]
        simp only at e
        rw [e, List.length_nil] at this
        omega
    · have : (usedB (s.set i ⟨(s.getD i default).Shelf, (s.getD i default).Boxes.eraseIdx k⟩)).Sublist (usedB s) := by
        rw [em]
        conv => rhs; rw [es]
        rw [usedB_append, usedB_append, usedB, usedB]
        exact (List.Sublist.refl _).append ((List.eraseIdx_sublist _ _).append (List.Sublist.refl _))
      exact hR.nd.sublist this
theorem removeL_length {s : List Std} {i k : Nat} : (removeL s i k).length ≤ s.length := by
  unfold removeL
  split
  · exact List.length_eraseIdx_le s i
  · simp
theorem removeR_ok {l : List Shf} {b : List Box} {s : List Std} {id : Int} (h : (removeR l b s id).2 = 0) : checkS l b (removeR l b s id).1 = 0 ∧ (removeR l b s id).1.length ≤ s.length := by
  have hl := removeL_length (s := s) (i := (findP id 0 s).1.toNat) (k := (findP id 0 s).2.toNat)
  unfold removeR at h ⊢
  split at h
  · cases h
  rename_i h1
  split at h
  · cases h
  rename_i h2
  split at h
  · cases h
  rename_i h3
  rw [if_neg h1, if_neg h2, if_neg h3]
  have hc := Classical.not_not.1 h1
  rcases findP_cases id s 0 with ⟨g1, g2⟩ | ⟨i, k, hi, hk, g1, g2, g3, g4⟩
  · rw [g1] at h3; exact absurd (by decide) h3
  · refine ⟨?_, hl⟩
    rw [g1, Nat.zero_add]
    exact check_fit hc (remove_fit (right_of hc) i k hi hk)
/-- One step: Place, or else Remove, or else nothing. -/
def stepS (l : List Shf) (b : List Box) (s : List Std) (y : Int × Int × Int) : List Std :=
  if (placeR l b s y.1 y.2.1 y.2.2).2 = 0 then (placeR l b s y.1 y.2.1 y.2.2).1 else if (removeR l b s y.1).2 = 0 then (removeR l b s y.1).1 else s
def stK (l : List Shf) (b : List Box) (s : List Std) (ys : List (Int × Int × Int)) : Nat → List Std
  | 0 => s
  | k + 1 => stepS l b (stK l b s ys k) (ys.getD k (0, 0, 0))
theorem stepS_ok {l : List Shf} {b : List Box} {s : List Std} {y : Int × Int × Int} {n m : Nat} (h : checkS l b s = 0) (hl : s.length ≤ m) (hx : ∀ x ∈ s, x.Boxes.length ≤ n) : checkS l b (stepS l b s y) = 0 ∧ (stepS l b s y).length ≤ m + 1 ∧ ∀ x ∈ stepS l b s y, x.Boxes.length ≤ n + 1 := by
  unfold stepS
  split
  · rename_i hp
    rcases placeR_cases l b s y.1 y.2.1 y.2.2 with ⟨h1, _⟩ | ⟨hC, hP⟩
    · exact absurd hp h1
    · have h3 := placeR_len (l := l) (b := b) (x0 := y.1) (x1 := y.2.1) (x2 := y.2.2) hx
      rw [hP] at h3 ⊢
      have hlen := placeL_length (s := s) (x0 := y.1) (x1 := y.2.1) (k := y.2.2.toNat)
      exact ⟨place_check hC, by show (placeL _ _ _ _).length ≤ _; omega, h3⟩
  · split
    · rename_i hp
      obtain ⟨g1, g2⟩ := removeR_ok hp
      exact ⟨g1, by omega, fun x hx' => by have := removeR_len hx x hx'; omega⟩
    · exact ⟨h, by omega, fun x hx' => by have := hx x hx'; omega⟩
theorem stK_ok {l : List Shf} {b : List Box} {s : List Std} {ys : List (Int × Int × Int)} (h : checkS l b s = 0) (hl : s.length ≤ 30) (hx : ∀ x ∈ s, x.Boxes.length ≤ 30) : ∀ k, checkS l b (stK l b s ys k) = 0 ∧ (stK l b s ys k).length ≤ 30 + k ∧ ∀ x ∈ stK l b s ys k, x.Boxes.length ≤ 30 + k
  | 0 => ⟨h, hl, hx⟩
  | k + 1 => by
    obtain ⟨h1, h2, h3⟩ := stK_ok (ys := ys) h hl hx k
    exact stepS_ok h1 h2 h3
end Go.Sx.T
