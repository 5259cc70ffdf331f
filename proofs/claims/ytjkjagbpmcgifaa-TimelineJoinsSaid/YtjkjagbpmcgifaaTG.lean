/- Contracts of functions of the program, each proved by running its code symbolically (TG). -/
import Derived.Test.YtjkjagbpmcgifaaTD
/- Timelines in order, and that their days tell all of them. -/
namespace Go.Sx.T
set_option linter.unusedVariables false
set_option linter.unusedSimpArgs false
def RP (q p : Piece) : Prop := q.Until < p.From ∨ (q.Until = p.From ∧ q.Value ≠ p.Value)
structure Norm (l : List Piece) : Prop where
  ok : ∀ p ∈ l, p.From < p.Until
  ord : l.Pairwise RP
theorem Norm.tail {p : Piece} {l : List Piece} (h : Norm (p :: l)) : Norm l := ⟨fun q hq => h.ok q (by simp [hq]), (List.pairwise_cons.1 h.ord).2⟩
theorem Norm.head {p : Piece} {l : List Piece} (h : Norm (p :: l)) : ∀ q ∈ l, RP p q := (List.pairwise_cons.1 h.ord).1
theorem RP.le {q p : Piece} (h : RP q p) : q.Until ≤ p.From := by rcases h with h | h <;> omega
theorem has_iff {d : Int} {p : Piece} : p.has d = true ↔ p.From ≤ d ∧ d < p.Until := by simp [Piece.has]
theorem atF_cons (p : Piece) (l : List Piece) (d : Int) : atF (p :: l) d = if p.From ≤ d ∧ d < p.Until then some p.Value else atF l d := by
  unfold atF
  rw [List.find?_cons]
  split
  · rename_i h; rw [if_pos (has_iff.1 h)]; rfl
  · rename_i h
    rw [if_neg]
    intro hh
    rw [has_iff.2 hh] at h; cases h
theorem atF_nil (d : Int) : atF [] d = none := rfl
theorem atF_none_of {l : List Piece} {d : Int} (h : ∀ p ∈ l, ¬ (p.From ≤ d ∧ d < p.Until)) : atF l d = none := by
  induction l with
  | nil => rfl
  | cons p l ih => rw [atF_cons, if_neg (h p (by simp))]; exact ih fun q hq => h q (by simp [hq])
theorem atF_some_mem {l : List Piece} {d v : Int} (h : atF l d = some v) : ∃ p ∈ l, p.From ≤ d ∧ d < p.Until ∧ p.Value = v := by
  induction l with
  | nil => rw [atF_nil] at h; cases h
  | cons p l ih =>
    rw [atF_cons] at h
    split at h
    · rename_i hh; injection h with h; exact ⟨p, by simp, hh.1, hh.2, h⟩
    · obtain ⟨q, hq, r⟩ := ih h; exact ⟨q, by simp [hq], r⟩
theorem atF_append (a b : List Piece) (d : Int) : atF (a ++ b) d = if (atF a d).isSome then atF a d else atF b d := by
  induction a with
  | nil => rfl
  | cons p a ih =>
    rw [List.cons_append, atF_cons, atF_cons]
    split
    · rfl
    · exact ih
theorem atF_before {p : Piece} {l : List Piece} (h : Norm (p :: l)) {d : Int} (hd : d < p.Until) : atF l d = none :=
  atF_none_of fun q hq hh => by have := (h.head q hq).le; omega
theorem norm_unique : ∀ {a b : List Piece}, Norm a → Norm b → (∀ d, atF a d = atF b d) → a = b
  | [], [], _, _, _ => rfl
  | [], q :: b, _, hb, h => by
    have h1 := h q.From
    have := hb.ok q (by simp)
    rw [atF_nil, atF_cons, if_pos ⟨Int.le_refl _, this⟩] at h1; cases h1
  | p :: a, [], ha, _, h => by
    have h1 := h p.From
    have := ha.ok p (by simp)
    rw [atF_nil, atF_cons, if_pos ⟨Int.le_refl _, this⟩] at h1; cases h1
  | p :: a, q :: b, ha, hb, h => by
    have hp := ha.ok p (by simp)
    have hq := hb.ok q (by simp)
    have lower : ∀ {x : Piece} {l : List Piece}, Norm (x :: l) → ∀ {d v : Int}, atF (x :: l) d = some v → x.From ≤ d := by
      intro x l hx d v hv
      obtain ⟨y, hy, h1, h2, _⟩ := atF_some_mem hv
      rcases List.mem_cons.1 hy with rfl | hy
      · exact h1
      · have := (hx.head y hy).le
        have := hx.ok x (by simp)
        omega
    have e1 := h p.From
    rw [atF_cons, if_pos ⟨Int.le_refl _, hp⟩] at e1
    have e2 := h q.From
    rw [atF_cons q, if_pos ⟨Int.le_refl _, hq⟩] at e2
    have f1 := lower hb e1.symm
    have f2 := lower ha e2
    have hf : p.From = q.From := by omega
    have hv : p.Value = q.Value := by
      rw [atF_cons, if_pos ⟨by omega, by omega⟩] at e1
      injection e1
    have until_le : ∀ {x y : Piece} {l r : List Piece}, Norm (x :: l) → x.From = y.From → x.Value = y.Value → x.From < x.Until → (∀ d, atF (x :: l) d = atF (y :: r) d) → ¬ x.Until < y.Until := by
      intro x y l r hx hxy hvv hxu hall hlt
      have hd := hall x.Until
      rw [atF_cons, if_neg (by omega), atF_cons, if_pos ⟨by omega, hlt⟩] at hd
      obtain ⟨z, hz, h1, h2, h3⟩ := atF_some_mem hd
      rcases hx.head z hz with h4 | h4
      · omega
      · exact h4.2 (by omega)
    have hu : p.Until = q.Until := by
      have u1 := until_le ha hf hv hp h
      have u2 := until_le hb hf.symm hv.symm hq fun d => (h d).symm
      omega
    have hpq : p = q := by cases p; cases q; simp_all
    subst hpq
    congr 1
    refine norm_unique ha.tail hb.tail fun d => ?_
    by_cases hd : p.From ≤ d ∧ d < p.Until
    · rw [atF_before ha hd.2, atF_before hb hd.2]
    · have := h d
      rwa [atF_cons, atF_cons, if_neg hd, if_neg hd] at this
/-! Putting a piece behind others. -/
theorem putP_nil (x : Piece) : putP [] x = [x] := by simp [putP, joins]
theorem putP_snoc (l : List Piece) (q x : Piece) : putP (l ++ [q]) x = if q.Until = x.From ∧ q.Value = x.Value then l ++ [⟨q.From, x.Until, q.Value⟩] else l ++ [q, x] := by
  have hlast : lastP (l ++ [q]) = q := by simp [lastP]
  have hj : joins (l ++ [q]) x.From x.Value = true ↔ q.Until = x.From ∧ q.Value = x.Value := by
    unfold joins; rw [hlast]
    simp only [Bool.and_eq_true, decide_eq_true_eq, List.length_append, List.length_singleton]
    constructor
    · rintro ⟨⟨_, h1⟩, h2⟩; exact ⟨h1, h2⟩
    · rintro ⟨h1, h2⟩; exact ⟨⟨by omega, h1⟩, h2⟩
  unfold putP
  rw [hlast]
  by_cases h : q.Until = x.From ∧ q.Value = x.Value
  · rw [if_pos (hj.2 h), if_pos h]
    simp
  · rw [if_neg (fun hh => h (hj.1 hh)), if_neg h]
    simp
theorem eq_snoc {l : List Piece} (h : l ≠ []) : ∃ r q, l = r ++ [q] := ⟨l.dropLast, l.getLast h, (List.dropLast_concat_getLast h).symm⟩
structure PutOK (l l' : List Piece) (x : Piece) : Prop where
  norm : Norm l'
  end' : ∀ p ∈ l', p.Until ≤ x.Until
  at' : ∀ d, atF l' d = if x.From ≤ d ∧ d < x.Until then some x.Value else atF l d
theorem putP_ok {l : List Piece} {x : Piece} (hl : Norm l) (hx : x.From < x.Until) (he : ∀ p ∈ l, p.Until ≤ x.From) : PutOK l (putP l x) x := by
  by_cases h0 : l = []
  · subst h0
    rw [putP_nil]
    exact ⟨⟨fun p hp => by simp at hp; subst hp; exact hx, by simp⟩, fun p hp => by simp at hp; subst hp; exact Int.le_refl _, fun d => by rw [atF_cons]⟩
  · obtain ⟨r, q, rfl⟩ := eq_snoc h0
    have hq := hl.ok q (by simp)
    have hqe := he q (by simp)
    have hord := List.pairwise_append.1 hl.ord
    have hr : ∀ p ∈ r, RP p q := fun p hp => hord.2.2 p hp q (by simp)
    have hnone : ∀ d, q.From ≤ d → atF r d = none := fun d hd => atF_none_of fun p hp hh => by have := (hr p hp).le; omega
    rw [putP_snoc]
    split
    · rename_i h
      refine ⟨⟨fun p hp => ?_, ?_⟩, fun p hp => ?_, fun d => ?_⟩
      · rcases List.mem_append.1 hp with hp | hp
        · exact hl.ok p (by simp [hp])
        · simp at hp; subst hp; show q.From < x.Until; omega
      · rw [List.pairwise_append]
        refine ⟨hord.1, by simp, fun p hp y hy => ?_⟩
        simp at hy; subst hy
        exact hr p hp
      · rcases List.mem_append.1 hp with hp | hp
        · have := (hr p hp).le; omega
        · simp at hp; subst hp; exact Int.le_refl _
      · rw [atF_append, atF_append]
        by_cases hd : q.From ≤ d
        · rw [hnone d hd]
          simp only [Option.isSome_none, Bool.false_eq_true, if_false]
          rw [atF_cons, atF_cons, atF_nil]
          simp only
          by_cases h1 : x.From ≤ d ∧ d < x.Until
          · rw [if_pos ⟨hd, h1.2⟩, if_pos h1, h.2]
          · rw [if_neg h1]
            by_cases h2 : d < q.Until
            · rw [if_pos ⟨hd, by omega⟩, if_pos ⟨hd, h2⟩]
            · rw [if_neg (by omega), if_neg (by omega)]
        · rw [if_neg (by omega : ¬ (x.From ≤ d ∧ d < x.Until))]
          have e1 : ∀ u : Int, atF [⟨q.From, u, q.Value⟩] d = none := fun u => by rw [atF_cons, if_neg (fun hh => hd hh.1), atF_nil]
          have e2 : atF [q] d = none := by rw [atF_cons, if_neg (fun hh => hd hh.1), atF_nil]
          rw [e1, e2]
    · rename_i h
      have hR : RP q x := by
        rcases Int.lt_or_eq_of_le hqe with h1 | h1
        · exact .inl h1
        · exact .inr ⟨h1, fun h2 => h ⟨h1, h2⟩⟩
      have e : r ++ [q, x] = (r ++ [q]) ++ [x] := by simp
      rw [e]
      refine ⟨⟨fun p hp => ?_, ?_⟩, fun p hp => ?_, fun d => ?_⟩
      · rcases List.mem_append.1 hp with hp | hp
        · exact hl.ok p hp
        · simp at hp; subst hp; exact hx
      · rw [List.pairwise_append]
        refine ⟨hl.ord, by simp, fun p hp y hy => ?_⟩
        simp at hy; subst hy
        rcases List.mem_append.1 hp with hp | hp
        · have h1 := (hr p hp).le
          exact .inl (by omega)
        · simp at hp; subst hp; exact hR
      · rcases List.mem_append.1 hp with hp | hp
        · have := he p hp; omega
        · simp at hp; subst hp; exact Int.le_refl _
      · rw [atF_append]
        by_cases hd : x.From ≤ d ∧ d < x.Until
        · have hn : atF (r ++ [q]) d = none := atF_none_of fun p hp hh => by have := he p hp; omega
          rw [hn, if_pos hd]
          simp only [Option.isSome_none, Bool.false_eq_true, if_false]
          rw [atF_cons, if_pos hd]
        · rw [if_neg hd, atF_cons, if_neg hd, atF_nil]
          cases atF (r ++ [q]) d <;> rfl
end Go.Sx.T
