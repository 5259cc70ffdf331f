/- Contracts of functions of the program, each proved by running its code symbolically (TH). -/
import Derived.Test.YtjkjagbpmcgifaaTG
import Derived.Test.YtjkjagbpmcgifaaTE
/- What is built between cuts has the values that it is built of. -/
namespace Go.Sx.T
open Go.Sx
set_option linter.unusedVariables false
set_option linter.unusedSimpArgs false
theorem asc_get {D : List Int} (h : D.Pairwise (· < ·)) {i j : Nat} (hij : i < j) (hj : j < D.length) : D.getD i 0 < D.getD j 0 := by
  rw [getD_of_lt _ i (by omega), getD_of_lt _ j hj]
  exact List.pairwise_iff_getElem.1 h i j (by omega) hj hij
theorem build_ok {D : List Int} {g : Int → Option Int} (hD : D.Pairwise (· < ·)) (hc : ∀ (j : Nat) (d : Int), j + 1 < D.length → D.getD j 0 ≤ d → d < D.getD (j + 1) 0 → g d = g (D.getD j 0)) :
    ∀ k, k < D.length → Norm (buildAt D g k) ∧ (∀ p ∈ buildAt D g k, p.Until ≤ D.getD k 0) ∧ ∀ d, atF (buildAt D g k) d = if D.getD 0 0 ≤ d ∧ d < D.getD k 0 then g d else none
  | 0, _ => by
    refine ⟨⟨fun p hp => by simp [buildAt] at hp, by simp [buildAt]⟩, fun p hp => by simp [buildAt] at hp, fun d => ?_⟩
    rw [buildAt, atF_nil, if_neg (by omega)]
  | k + 1, hk => by
    obtain ⟨h1, h2, h3⟩ := build_ok hD hc k (by omega)
    have hlt := asc_get hD (i := k) (j := k + 1) (by omega) hk
    have h0 : D.getD 0 0 ≤ D.getD k 0 := by
      rcases Nat.eq_zero_or_pos k with h | h
      · rw [h]; exact Int.le_refl _
      · exact Int.le_of_lt (asc_get hD h (by omega))
    cases hg : g (D.getD k 0) with
    | none =>
      have e : buildAt D g (k + 1) = buildAt D g k := by rw [buildAt, hg]
      rw [e]
      refine ⟨h1, fun p hp => by have := h2 p hp; omega, fun d => ?_⟩
      rw [h3 d]
      by_cases hd : D.getD k 0 ≤ d ∧ d < D.getD (k + 1) 0
      · rw [if_neg (by omega), if_pos ⟨by omega, hd.2⟩, hc k d hk hd.1 hd.2, hg]
      · by_cases hd2 : D.getD 0 0 ≤ d ∧ d < D.getD k 0
        · rw [if_pos hd2, if_pos ⟨hd2.1, by omega⟩]
        · rw [if_neg hd2, if_neg (by omega)]
    | some v =>
      have e : buildAt D g (k + 1) = putP (buildAt D g k) ⟨D.getD k 0, D.getD (k + 1) 0, v⟩ := by
        rw [buildAt, hg]; simp only; rw [if_neg (by omega)]
      rw [e]
      obtain ⟨q1, q2, q3⟩ := putP_ok (x := ⟨D.getD k 0, D.getD (k + 1) 0, v⟩) h1 hlt h2
      refine ⟨q1, q2, fun d => ?_⟩
      rw [q3 d]
      simp only
      by_cases hd : D.getD k 0 ≤ d ∧ d < D.getD (k + 1) 0
      · rw [if_pos hd, if_pos ⟨by omega, hd.2⟩, hc k d hk hd.1 hd.2, hg]
      · rw [if_neg hd, h3 d]
        by_cases hd2 : D.getD 0 0 ≤ d ∧ d < D.getD k 0
        · rw [if_pos hd2, if_pos ⟨hd2.1, by omega⟩]
        · rw [if_neg hd2, if_neg (by omega)]
theorem buildAt_last {D : List Int} {g : Int → Option Int} {n : Nat} (h : D.length = n + 1) : buildAt D g D.length = buildAt D g n := by
  rw [h, buildAt]
  cases g (D.getD n 0) with
  | none => rfl
  | some v => simp only; rw [if_pos h.symm]
/-- The built list has the values of g, where g has none outside of the cuts. -/
theorem build_all {D : List Int} {g : Int → Option Int} (hD : D.Pairwise (· < ·)) (hc : ∀ (j : Nat) (d : Int), j + 1 < D.length → D.getD j 0 ≤ d → d < D.getD (j + 1) 0 → g d = g (D.getD j 0))
    (hlo : ∀ d, (∀ x ∈ D, d < x) → g d = none) (hhi : ∀ d, (∀ x ∈ D, x ≤ d) → g d = none) : Norm (buildAt D g D.length) ∧ ∀ d, atF (buildAt D g D.length) d = g d := by
  rcases Nat.eq_zero_or_pos D.length with h | h
  · have : D = [] := List.eq_nil_of_length_eq_zero h
    subst this
    refine ⟨⟨fun p hp => by simp [buildAt] at hp, by simp [buildAt]⟩, fun d => ?_⟩
    rw [hlo d (by simp)]; rfl
  · obtain ⟨n, hn⟩ : ∃ n, D.length = n + 1 := ⟨D.length - 1, by omega⟩
    rw [buildAt_last hn]
    obtain ⟨h1, h2, h3⟩ := build_ok hD hc n (by omega)
    refine ⟨h1, fun d => ?_⟩
    rw [h3 d]
    have mem : ∀ x ∈ D, D.getD 0 0 ≤ x ∧ x ≤ D.getD n 0 := by
      intro x hx
      obtain ⟨i, hi, rfl⟩ := List.mem_iff_getElem.1 hx
      rw [← getD_of_lt D (d := 0) i hi]
      constructor
      · rcases Nat.eq_zero_or_pos i with h | h
        · rw [h]; exact Int.le_refl _
        · exact Int.le_of_lt (asc_get hD h hi)
      · rcases Nat.lt_or_ge i n with h | h
        · exact Int.le_of_lt (asc_get hD h (by omega))
        · have : i = n := by omega
          rw [this]; exact Int.le_refl _
    split
    · rfl
    · rename_i hd
      by_cases hd1 : D.getD 0 0 ≤ d
      · exact (hhi d fun x hx => by have := (mem x hx).2; omega).symm
      · exact (hlo d fun x hx => by have := (mem x hx).1; omega).symm
/-! The cuts. -/
theorem mem_putKey {ks : List Int} {k x : Int} : x ∈ putKey ks k ↔ x ∈ ks ∨ x = k := by
  unfold putKey
  split
  · rename_i h
    constructor
    · exact .inl
    · rintro (h1 | rfl)
      · exact h1
      · exact h
  · simp
theorem mem_fold : ∀ (ps : List (Int × Int)) (ks : List Int) (x : Int), x ∈ ps.foldl noteK ks ↔ x ∈ ks ∨ ∃ p ∈ ps, x = p.1 ∨ x = p.2
  | [], ks, x => by simp
  | p :: r, ks, x => by
    rw [List.foldl_cons, mem_fold r (noteK ks p) x, noteK, mem_putKey, mem_putKey]
    constructor
    · rintro (((h | h) | h) | ⟨q, hq, h⟩)
      · exact .inl h
      · exact .inr ⟨p, by simp, .inl h⟩
      · exact .inr ⟨p, by simp, .inr h⟩
      · exact .inr ⟨q, by simp [hq], h⟩
    · rintro (h | ⟨q, hq, h⟩)
      · exact .inl (.inl (.inl h))
      · rcases List.mem_cons.1 hq with rfl | hq
        · rcases h with h | h
          · exact .inl (.inl (.inr h))
          · exact .inl (.inr h)
        · exact .inr ⟨q, hq, h⟩
def cutsL (ss : List Span) (L : List (List Piece)) : List Int := isort (keysOf (psOf ss L))
theorem cuts_asc (ss : List Span) (L : List (List Piece)) : (cutsL ss L).Pairwise (· < ·) := by
  have hn : (cutsL ss L).Nodup := (List.Perm.nodup_iff (isort_perm _)).2 (keysOf_nodup _ [] (by simp))
  have hs := isort_sorted (keysOf (psOf ss L))
  exact List.Pairwise.imp₂ (fun a b h1 h2 => Int.lt_iff_le_and_ne.2 ⟨h1, h2⟩) hs hn
theorem mem_cuts {ss : List Span} {L : List (List Piece)} {x : Int} : x ∈ cutsL ss L ↔ (∃ s ∈ ss, x = s.From ∨ x = s.Until) ∨ ∃ l ∈ L, ∃ p ∈ l, x = p.From ∨ x = p.Until := by
  unfold cutsL
  rw [(isort_perm _).mem_iff, keysOf, mem_fold]
  simp only [List.not_mem_nil, false_or, psOf, List.mem_append, List.mem_map, List.mem_flatten]
  constructor
  · rintro ⟨q, ⟨s, hs, rfl⟩ | ⟨p, ⟨l, hl, hp⟩, rfl⟩, h⟩
    · exact .inl ⟨s, hs, h⟩
    · exact .inr ⟨l, hl, p, hp, h⟩
  · rintro (⟨s, hs, h⟩ | ⟨l, hl, p, hp, h⟩)
    · exact ⟨prS s, .inl ⟨s, hs, rfl⟩, h⟩
    · exact ⟨prP p, .inr ⟨p, ⟨l, hl, hp⟩, rfl⟩, h⟩
/-- Between two cuts nothing begins or ends. -/
theorem between {D : List Int} (hD : D.Pairwise (· < ·)) {j : Nat} {d x : Int} (hj : j + 1 < D.length) (h1 : D.getD j 0 ≤ d) (h2 : d < D.getD (j + 1) 0) (hx : x ∈ D) : x ≤ d ↔ x ≤ D.getD j 0 := by
  constructor
  · intro h
    obtain ⟨i, hi, rfl⟩ := List.mem_iff_getElem.1 hx
    rw [← getD_of_lt D (d := 0) i hi] at h ⊢
    rcases Nat.lt_or_ge j i with h3 | h3
    · have : D.getD (j + 1) 0 ≤ D.getD i 0 := by
        rcases Nat.lt_or_ge (j + 1) i with h4 | h4
        · exact Int.le_of_lt (asc_get hD h4 hi)
        · have : i = j + 1 := by omega
          rw [this]; exact Int.le_refl _
      omega
    · rcases Nat.lt_or_ge i j with h4 | h4
      · exact Int.le_of_lt (asc_get hD h4 (by omega))
      · have : i = j := by omega
        rw [this]; exact Int.le_refl _
  · intro h; omega
theorem atF_congr {l : List Piece} {d e : Int} (h : ∀ p ∈ l, ((p.From ≤ d ∧ d < p.Until) ↔ (p.From ≤ e ∧ e < p.Until))) : atF l d = atF l e := by
  induction l with
  | nil => rfl
  | cons p l ih =>
    rw [atF_cons, atF_cons, ih fun q hq => h q (by simp [hq])]
    by_cases hp : p.From ≤ d ∧ d < p.Until
    · rw [if_pos hp, if_pos ((h p (by simp)).1 hp)]
    · rw [if_neg hp, if_neg fun hh => hp ((h p (by simp)).2 hh)]
theorem replace_at {l : List Piece} {a b : Int} {w : Option Int} (hab : a < b) (hl : ∀ p ∈ l, p.From < p.Until) :
    Norm (buildAt (cutsL [⟨a, b⟩] [l]) (overF l a b w) (cutsL [⟨a, b⟩] [l]).length) ∧ ∀ d, atF (buildAt (cutsL [⟨a, b⟩] [l]) (overF l a b w) (cutsL [⟨a, b⟩] [l]).length) d = overF l a b w d := by
  have hD := cuts_asc [⟨a, b⟩] [l]
  have ma : a ∈ cutsL [⟨a, b⟩] [l] := mem_cuts.2 (.inl ⟨⟨a, b⟩, by simp, .inl rfl⟩)
  have mb : b ∈ cutsL [⟨a, b⟩] [l] := mem_cuts.2 (.inl ⟨⟨a, b⟩, by simp, .inr rfl⟩)
  have mf : ∀ p ∈ l, p.From ∈ cutsL [⟨a, b⟩] [l] := fun p hp => mem_cuts.2 (.inr ⟨l, by simp, p, hp, .inl rfl⟩)
  have mu : ∀ p ∈ l, p.Until ∈ cutsL [⟨a, b⟩] [l] := fun p hp => mem_cuts.2 (.inr ⟨l, by simp, p, hp, .inr rfl⟩)
  refine build_all hD (fun j d hj h1 h2 => ?_) (fun d hd => ?_) (fun d hd => ?_)
  · have b1 := between hD hj h1 h2 ma
    have b2 := between hD hj h1 h2 mb
    have hat : atF l d = atF l ((cutsL [⟨a, b⟩] [l]).getD j 0) := atF_congr fun p hp => by
      have c1 := between hD hj h1 h2 (mf p hp)
      have c2 := between hD hj h1 h2 (mu p hp)
      omega
    unfold overF
    rw [hat]
    by_cases hh : a ≤ d ∧ d < b
    · rw [if_pos hh, if_pos (by omega)]
    · rw [if_neg hh, if_neg (by omega)]
  · have := hd a ma
    rw [overF, if_neg (by omega)]
    exact atF_none_of fun p hp hh => by have := hd _ (mf p hp); omega
  · have := hd b mb
    rw [overF, if_neg (by omega)]
    exact atF_none_of fun p hp hh => by have := hd _ (mu p hp); omega
end Go.Sx.T
