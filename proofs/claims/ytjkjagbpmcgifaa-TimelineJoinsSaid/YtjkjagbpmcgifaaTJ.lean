/- Contracts of functions of the program, each proved by running its code symbolically (TJ). -/
import Derived.Test.YtjkjagbpmcgifaaTH
import Derived.Test.YtjkjagbpmcgifaaTI
/- The reference's Set and Clear have the values that they are made of. -/
namespace Go.Sx.T
open Go.Sx
set_option linter.unusedVariables false
set_option linter.unusedSimpArgs false
def orV (x y : Option Int) : Option Int := match x with | some v => some v | none => y
theorem cut_fold {lo hi : Int} : ∀ (l acc : List Piece), Norm l → Norm acc → (∀ p ∈ acc, ∀ q ∈ l, p.Until ≤ q.From) →
    Norm (l.foldl (fun acc p => putR acc ⟨max p.From lo, min p.Until hi, p.Value⟩) acc) ∧ ∀ d, atF (l.foldl (fun acc p => putR acc ⟨max p.From lo, min p.Until hi, p.Value⟩) acc) d = if lo ≤ d ∧ d < hi then orV (atF l d) (atF acc d) else atF acc d
  | [], acc, _, ha, _ => ⟨ha, fun d => by rw [List.foldl_nil, atF_nil]; simp [orV]⟩
  | x :: l, acc, hl, ha, hb => by
    rw [List.foldl_cons]
    have hx := hl.ok x (by simp)
    by_cases he : min x.Until hi ≤ max x.From lo
    · have e : putR acc ⟨max x.From lo, min x.Until hi, x.Value⟩ = acc := by rw [putR, if_pos he]
      rw [e]
      obtain ⟨h1, h2⟩ := cut_fold (lo := lo) (hi := hi) l acc hl.tail ha fun p hp q hq => hb p hp q (by simp [hq])
      refine ⟨h1, fun d => ?_⟩
      rw [h2 d]
      split
      · rename_i hd; rw [atF_cons, if_neg (by omega)]
      · rfl
    · have e : putR acc ⟨max x.From lo, min x.Until hi, x.Value⟩ = putP acc ⟨max x.From lo, min x.Until hi, x.Value⟩ := by rw [putR, if_neg he]
      rw [e]
      obtain ⟨q1, q2, q3⟩ := putP_ok (l := acc) (x := ⟨max x.From lo, min x.Until hi, x.Value⟩) ha (by show max x.From lo < min x.Until hi; omega) (fun p hp => by have := hb p hp x (by simp); show p.Until ≤ max x.From lo; omega)
      obtain ⟨h1, h2⟩ := cut_fold (lo := lo) (hi := hi) l _ hl.tail q1 fun p hp q hq => by
        have h3 := q2 p hp
        have h4 := (hl.head q hq).le
        simp only at h3
        omega
      refine ⟨h1, fun d => ?_⟩
      rw [h2 d, q3 d]
      simp only
      split
      · rename_i hd
        rw [atF_cons]
        by_cases hxd : x.From ≤ d ∧ d < x.Until
        · rw [if_pos (by omega), if_pos hxd, atF_before hl hxd.2]; rfl
        · rw [if_neg (by omega), if_neg hxd]
      · rename_i hd; rw [if_neg (by omega)]
theorem cut_ok {l : List Piece} {lo hi : Int} (hl : Norm l) : Norm (cutL l lo hi) ∧ ∀ d, atF (cutL l lo hi) d = if lo ≤ d ∧ d < hi then atF l d else none := by
  obtain ⟨h1, h2⟩ := cut_fold (lo := lo) (hi := hi) l [] hl ⟨by simp, by simp⟩ (by simp)
  refine ⟨h1, fun d => ?_⟩
  unfold cutL
  rw [h2 d, atF_nil]
  split
  · cases atF l d <;> rfl
  · rfl
theorem join_ok : ∀ (b acc : List Piece), Norm b → Norm acc → (∀ p ∈ acc, ∀ q ∈ b, p.Until ≤ q.From) → Norm (joinP acc b) ∧ ∀ d, atF (joinP acc b) d = orV (atF b d) (atF acc d)
  | [], acc, _, ha, _ => ⟨ha, fun d => rfl⟩
  | x :: b, acc, hl, ha, hb => by
    have hx := hl.ok x (by simp)
    have e : joinP acc (x :: b) = joinP (putP acc x) b := by
      show joinP (putR acc x) b = _
      rw [putR, if_neg (by omega)]
    rw [e]
    obtain ⟨q1, q2, q3⟩ := putP_ok (l := acc) (x := x) ha hx (fun p hp => hb p hp x (by simp))
    obtain ⟨h1, h2⟩ := join_ok b _ hl.tail q1 fun p hp q hq => by
      have h3 := q2 p hp
      have h4 := (hl.head q hq).le
      omega
    refine ⟨h1, fun d => ?_⟩
    rw [h2 d, q3 d, atF_cons]
    by_cases hxd : x.From ≤ d ∧ d < x.Until
    · rw [if_pos hxd, if_pos hxd, atF_before hl hxd.2]; rfl
    · rw [if_neg hxd, if_neg hxd]
theorem atF_isSome {l : List Piece} {p : Piece} {d : Int} (hp : p ∈ l) (h1 : p.From ≤ d) (h2 : d < p.Until) : atF l d ≠ none := by
  induction l with
  | nil => simp at hp
  | cons q l ih =>
    rw [atF_cons]
    split
    · simp
    · rename_i hn
      rcases List.mem_cons.1 hp with rfl | hp
      · exact (hn ⟨h1, h2⟩).elim
      · exact ih hp
theorem change_at {l w : List Piece} {a b : Int} {v : Option Int} (hl : Norm l) (hok : ∀ p ∈ l, 0 ≤ p.From ∧ p.Until ≤ 1048576) (h0 : 0 ≤ a) (hab : a < b) (hb : b ≤ 1048576) (hw : Norm w) (hwf : ∀ d, atF w d = if a ≤ d ∧ d < b then v else none) :
    Norm (changeL l a b w) ∧ ∀ d, atF (changeL l a b w) d = overF l a b v d := by
  obtain ⟨a1, a2⟩ := cut_ok (lo := 0) (hi := a) hl
  obtain ⟨c1, c2⟩ := cut_ok (lo := b) (hi := 1048576) hl
  have ha : ∀ p ∈ cutL l 0 a, p.Until ≤ a := fun p hp => by
    have hv := a1.ok p hp
    have h1 := atF_isSome hp (d := p.Until - 1) (by omega) (by omega)
    rw [a2] at h1
    by_cases h2 : 0 ≤ p.Until - 1 ∧ p.Until - 1 < a
    · omega
    · rw [if_neg h2] at h1; exact (h1 rfl).elim
  have hwr : ∀ p ∈ w, a ≤ p.From ∧ p.Until ≤ b := fun p hp => by
    have hv := hw.ok p hp
    have h1 := atF_isSome hp (d := p.From) (by omega) (by omega)
    have h2 := atF_isSome hp (d := p.Until - 1) (by omega) (by omega)
    rw [hwf] at h1 h2
    constructor
    · by_cases h3 : a ≤ p.From ∧ p.From < b
      · omega
      · rw [if_neg h3] at h1; exact (h1 rfl).elim
    · by_cases h3 : a ≤ p.Until - 1 ∧ p.Until - 1 < b
      · omega
      · rw [if_neg h3] at h2; exact (h2 rfl).elim
  have hc : ∀ p ∈ cutL l b 1048576, b ≤ p.From := fun p hp => by
    have hv := c1.ok p hp
    have h1 := atF_isSome hp (d := p.From) (by omega) (by omega)
    rw [c2] at h1
    by_cases h2 : b ≤ p.From ∧ p.From < 1048576
    · omega
    · rw [if_neg h2] at h1; exact (h1 rfl).elim
  obtain ⟨j1, j2⟩ := join_ok w (cutL l 0 a) hw a1 fun p hp q hq => by have := ha p hp; have := (hwr q hq).1; omega
  have hj : ∀ p ∈ joinP (cutL l 0 a) w, p.Until ≤ b := fun p hp => by
    have hv := j1.ok p hp
    have h1 := atF_isSome hp (d := p.Until - 1) (by omega) (by omega)
    rw [j2, hwf, a2] at h1
    by_cases h2 : p.Until - 1 < b
    · omega
    · rw [if_neg (by omega), if_neg (by omega)] at h1; exact (h1 rfl).elim
  obtain ⟨k1, k2⟩ := join_ok (cutL l b 1048576) (joinP (cutL l 0 a) w) c1 j1 fun p hp q hq => by have := hj p hp; have := hc q hq; omega
  refine ⟨k1, fun d => ?_⟩
  unfold changeL
  rw [k2, j2, c2, hwf, a2, overF]
  have hneg : d < 0 → atF l d = none := fun h => atF_none_of fun p hp hh => by have := (hok p hp).1; omega
  have hbig : 1048576 ≤ d → atF l d = none := fun h => atF_none_of fun p hp hh => by have := (hok p hp).2; omega
  by_cases h1 : a ≤ d ∧ d < b
  · rw [if_pos h1, if_pos h1, if_neg (by omega), if_neg (by omega)]
    cases v <;> rfl
  · rw [if_neg h1, if_neg h1]
    by_cases h2 : b ≤ d ∧ d < 1048576
    · rw [if_pos h2, if_neg (by omega)]
      cases atF l d <;> rfl
    · rw [if_neg h2]
      by_cases h3 : 0 ≤ d ∧ d < a
      · rw [if_pos h3]; rfl
      · rw [if_neg h3]
        show none = _
        rcases Int.lt_or_le d 0 with h4 | h4
        · rw [hneg h4]
        · rw [hbig (by omega)]
/-- A list that is checked is in order. -/
theorem check_norm {l : List Piece} (h : check l = 0) : Norm l ∧ ∀ p ∈ l, 0 ≤ p.From ∧ p.Until ≤ 1048576 := by
  have hf := (check_zero.1 h).2
  have hok : ∀ p ∈ l, 0 ≤ p.From ∧ p.From < p.Until ∧ p.Until ≤ 1048576 := fun p hp => by
    obtain ⟨i, hi, rfl⟩ := List.mem_iff_getElem.1 hp
    have := check_ok h hi
    rwa [getD_of_lt l i hi] at this
  have hadj : ∀ k, k + 1 < l.length → RP (l.getD k default) (l.getD (k + 1) default) := fun k hk => by
    have h1 := hf (k + 1) hk
    unfold faultP prevOf at h1
    rw [if_neg (by omega : ¬ (k + 1 = 0))] at h1
    split at h1
    · cases h1
    · simp only [Nat.add_sub_cancel] at h1
      split at h1
      · cases h1
      · rename_i hn
        simp only [not_or, not_and] at hn
        rcases Int.lt_or_eq_of_le (Int.not_lt.1 hn.1) with h2 | h2
        · exact .inl h2
        · exact .inr ⟨h2, fun h3 => hn.2 h2.symm h3.symm⟩
  have hall : ∀ n i, i + n + 1 < l.length → RP (l.getD i default) (l.getD (i + n + 1) default) := by
    intro n
    induction n with
    | zero => intro i hi; exact hadj i hi
    | succ n ih =>
      intro i hi
      have h1 := (ih i (by omega)).le
      have h2 := (hadj (i + n + 1) (by omega)).le
      have h3 := check_ok h (k := i + n + 1) (by omega)
      rw [show i + (n + 1) + 1 = i + n + 1 + 1 by omega]
      exact .inl (by omega)
  refine ⟨⟨fun p hp => (hok p hp).2.1, List.pairwise_iff_getElem.2 fun i j hi hj hij => ?_⟩, fun p hp => ⟨(hok p hp).1, (hok p hp).2.2⟩⟩
  have := hall (j - i - 1) i (by omega)
  rw [show i + (j - i - 1) + 1 = j by omega, getD_of_lt l i hi, getD_of_lt l j hj] at this
  exact this
theorem same_change {l : List Piece} {a b : Int} {w : List Piece} {v : Option Int} (hw : okSpan a b = true → Norm w ∧ ∀ d, atF w d = if a ≤ d ∧ d < b then v else none) : replaceR l a b v = changeR l a b w := by
  unfold replaceR changeR
  by_cases h1 : check l ≠ 0
  · rw [if_pos h1, if_pos h1]
  · rw [if_neg h1, if_neg h1]
    by_cases h2 : okSpan a b = false
    · rw [if_pos h2, if_pos h2]
    · rw [if_neg h2, if_neg h2]
      have h1' : check l = 0 := Classical.byContradiction h1
      have h2' : okSpan a b = true := by simpa using h2
      obtain ⟨w1, w2⟩ := hw h2'
      have h3 : 0 ≤ a ∧ a < b ∧ b ≤ 1048576 := by simpa [okSpan, and_assoc] using h2'
      obtain ⟨n1, n2⟩ := check_norm h1'
      obtain ⟨r1, r2⟩ := replace_at (w := v) h3.2.1 n1.ok
      obtain ⟨c1, c2⟩ := change_at n1 n2 h3.1 h3.2.1 h3.2.2 w1 w2
      have e := norm_unique r1 c1 fun d => (r2 d).trans (c2 d).symm
      unfold buildR
      rw [show isort (keysOf (psOf [⟨a, b⟩] [l])) = cutsL [⟨a, b⟩] [l] from rfl, e]
theorem set_same (l : List Piece) (a b v : Int) : replaceR l a b (some v) = changeR l a b [⟨a, b, v⟩] :=
  same_change fun h => by
    have h3 : 0 ≤ a ∧ a < b ∧ b ≤ 1048576 := by simpa [okSpan, and_assoc] using h
    exact ⟨⟨fun p hp => by simp at hp; subst hp; exact h3.2.1, by simp⟩, fun d => by rw [atF_cons, atF_nil]⟩
theorem clear_same (l : List Piece) (a b : Int) : replaceR l a b none = changeR l a b [] :=
  same_change fun h => ⟨⟨by simp, by simp⟩, fun d => by rw [atF_nil]; split <;> rfl⟩
end Go.Sx.T
