/- Contracts of functions of the program, each proved by running its code symbolically (HY). -/
import Derived.Test.YtgnffeajpmniiaaHX
namespace Go.Sx.T
open Go Go.Proofs Go.Sx
set_option maxRecDepth 100000
set_option maxHeartbeats 4000000
set_option linter.unusedVariables false
set_option linter.unusedSimpArgs false
def qual (b : List Box) (s : List Std) (own : Box) (rep : Int) (x : Shf) : Prop := x.Repository = rep ∧ x.Climate = own.Climate ∧ own.Width ≤ roomI b s x
theorem bestF_take_spec {l : List Shf} (b : List Box) (s : List Std) (own : Box) (rep : Int) (hr : Asc l Shf.ID) (hok : ∀ x ∈ l, okS x = true) : ∀ k, k ≤ l.length →
    ((bestF b s own rep (l.take k)).1 = 0 ∧ ∀ j, j < k → ¬ qual b s own rep (l.getD j default)) ∨
    ∃ m, m < k ∧ qual b s own rep (l.getD m default) ∧ bestF b s own rep (l.take k) = ((l.getD m default).ID, roomI b s (l.getD m default)) ∧
      ∀ j, j < k → qual b s own rep (l.getD j default) → roomI b s (l.getD m default) < roomI b s (l.getD j default) ∨ (roomI b s (l.getD m default) = roomI b s (l.getD j default) ∧ (l.getD m default).ID ≤ (l.getD j default).ID) := by
  intro k hk
  induction k with
  | zero => exact .inl ⟨rfl, fun j hj => by omega⟩
  | succ k ih =>
    have hkl : k < l.length := by omega
    rw [bestF_take b s own rep l k hkl, bestStep]
    have hid := (okS_len (hok _ (getD_mem l default k hkl))).1
    rcases ih (by omega) with ⟨h1, h2⟩ | ⟨m, hm, h1, h2, h3⟩
    · by_cases hq : qual b s own rep (l.getD k default)
      · rw [if_pos (by
          obtain ⟨q1, q2, q3⟩ := hq
          simp only [bestB, Bool.and_eq_true, Bool.or_eq_true, decide_eq_true_eq]
          exact ⟨⟨⟨q1, q2⟩, q3⟩, .inl h1⟩)]
        refine .inr ⟨k, by omega, hq, rfl, fun j hj hqj => ?_⟩
        rcases Nat.lt_or_ge j k with h | h
        · exact absurd hqj (h2 j h)
        · have : j = k := by omega
          subst this; exact .inr ⟨rfl, Int.le_refl _⟩
      · rw [if_neg (by
          simp only [bestB, Bool.and_eq_true, Bool.or_eq_true, decide_eq_true_eq]
          rintro ⟨⟨⟨q1, q2⟩, q3⟩, _⟩
          exact hq ⟨q1, q2, q3⟩)]
        refine .inl ⟨h1, fun j hj => ?_⟩
        rcases Nat.lt_or_ge j k with h | h
        · exact h2 j h
        · have : j = k := by omega
          subst this; exact hq
    · have hidm := (okS_len (hok _ (getD_mem l default m (by omega)))).1
      by_cases hq : qual b s own rep (l.getD k default) ∧ roomI b s (l.getD k default) < roomI b s (l.getD m default)
      · rw [if_pos (by
          obtain ⟨⟨q1, q2, q3⟩, q4⟩ := hq
          simp only [bestB, Bool.and_eq_true, Bool.or_eq_true, decide_eq_true_eq]
          exact ⟨⟨⟨q1, q2⟩, q3⟩, .inr (by rw [h2]; exact q4)⟩)]
        refine .inr ⟨k, by omega, hq.1, rfl, fun j hj hqj => ?_⟩
        rcases Nat.lt_or_ge j k with h | h
        · have := h3 j h hqj
          have := hq.2
          left; omega
        · have : j = k := by omega
          subst this; exact .inr ⟨rfl, Int.le_refl _⟩
      · rw [if_neg (by
          simp only [bestB, Bool.and_eq_true, Bool.or_eq_true, decide_eq_true_eq]
          rintro ⟨⟨⟨q1, q2⟩, q3⟩, q4⟩
          rw [h2] at q4
          refine hq ⟨⟨q1, q2, q3⟩, ?_⟩
          rcases q4 with q4 | q4
          · have q4' : (l.getD m default).ID = 0 := q4
            omega
          · exact q4)]
        refine .inr ⟨m, by omega, h1, h2, fun j hj hqj => ?_⟩
        rcases Nat.lt_or_ge j k with h | h
        · exact h3 j h hqj
        · have : j = k := by omega
          subst this
          have h5 := hr m j hm hkl
          have h6 : ¬ roomI b s (l.getD j default) < roomI b s (l.getD m default) := fun h => hq ⟨hqj, h⟩
          rcases Int.lt_or_le (roomI b s (l.getD m default)) (roomI b s (l.getD j default)) with h7 | h7
          · exact .inl h7
          · exact .inr ⟨by omega, by omega⟩
theorem place_ok {l : List Shf} {b : List Box} {s : List Std} (h : checkS l b s = 0) {id : Int} (hid : isK b Box.ID id = true) (hf : (findP id 0 s).1 < 0) (k : Nat) (hk : k < l.length) :
    (placeR l b s id (l.getD k default).ID 0).2 = 0 ↔ (l.getD k default).Climate = (atK b Box.ID id).Climate ∧ (atK b Box.ID id).Width ≤ roomI b s (l.getD k default) := by
  have hR := right_of h
  obtain ⟨g1, g2⟩ := atK_self hR.al k hk
  rw [placeR, if_neg (fun g => g h), placeQ, if_neg (by rw [hid, g1]; decide), if_neg (by omega), if_neg (by
    have : inB 0 0 (boxesOf s (l.getD k default).ID).length = true := by simp [inB]
    rw [this]; decide), g2]
  by_cases h1 : (atK b Box.ID id).Climate = (l.getD k default).Climate
  · rw [if_neg (fun g => g h1)]
    by_cases h2 : roomI b s (l.getD k default) < (atK b Box.ID id).Width
    · rw [if_pos h2]
      constructor
      · intro h; cases h
      · intro h; omega
    · rw [if_neg h2]
      exact ⟨fun _ => ⟨h1.symm, by omega⟩, fun _ => rfl⟩
  · rw [if_pos h1]
    constructor
    · intro h; cases h
    · intro h; exact absurd h.1.symm h1
/-- The result of Best, case by case. -/
theorem bestR_cases (l : List Shf) (b : List Box) (s : List Std) (id rep : Int) :
    ((bestR l b s id rep).1 = 0 ∧ (bestR l b s id rep).2 ≠ 0 ∧ (bestR l b s id rep).2 ≠ 12) ∨
    (checkS l b s = 0 ∧ isK b Box.ID id = true ∧ (findP id 0 s).1 < 0 ∧
      ((bestR l b s id rep = (0, 12) ∧ ∀ j, j < l.length → ¬ qual b s (atK b Box.ID id) rep (l.getD j default)) ∨
      ∃ m, m < l.length ∧ qual b s (atK b Box.ID id) rep (l.getD m default) ∧ bestR l b s id rep = ((l.getD m default).ID, 0) ∧
        ∀ j, j < l.length → qual b s (atK b Box.ID id) rep (l.getD j default) → roomI b s (l.getD m default) < roomI b s (l.getD j default) ∨ (roomI b s (l.getD m default) = roomI b s (l.getD j default) ∧ (l.getD m default).ID ≤ (l.getD j default).ID))) := by
  unfold bestR
  by_cases h : checkS l b s = 0
  · have hR := right_of h
    rw [if_neg (fun g => g h)]
    by_cases h1 : isK b Box.ID id = false
    · rw [if_pos h1]; exact .inl ⟨rfl, by decide, by decide⟩
    · rw [if_neg h1]
      by_cases h2 : 0 ≤ (findP id 0 s).1
      · rw [if_pos h2]; exact .inl ⟨rfl, by decide, by decide⟩
      · rw [if_neg h2]
        have hs := bestF_take_spec b s (atK b Box.ID id) rep hR.al hR.okl l.length (Nat.le_refl _)
        rw [List.take_length] at hs
        refine .inr ⟨h, by simpa using h1, by omega, ?_⟩
        rcases hs with ⟨h3, h4⟩ | ⟨m, hm, h3, h4, h5⟩
        · rw [if_pos h3]; exact .inl ⟨rfl, h4⟩
        · have hid := (okS_len (hR.okl _ (getD_mem l default m hm))).1
          rw [h4, if_neg (by show ¬ (l.getD m default).ID = 0; omega)]
          exact .inr ⟨m, hm, h3, rfl, h5⟩
  · rw [if_pos h]; exact .inl ⟨rfl, by decide, by decide⟩
theorem roomR_at {l : List Shf} {b : List Box} {s : List Std} (h : checkS l b s = 0) (k : Nat) (hk : k < l.length) : roomR l b s (l.getD k default).ID = (roomI b s (l.getD k default), 0) := by
  obtain ⟨g1, g2⟩ := atK_self (right_of h).al k hk
  rw [roomR, if_neg (fun g => g h), if_neg (by rw [g1]; decide), g2]
end Go.Sx.T
