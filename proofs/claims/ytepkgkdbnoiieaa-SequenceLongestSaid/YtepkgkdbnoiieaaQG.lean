/- Contracts of functions of the program, each proved by running its code symbolically (QG). -/
import Derived.Test.YtepkgkdbnoiieaaSx4
/- The longest ascending part, and of those the least: plain. -/
namespace Go.Sx.T
open Go.Sx
set_option linter.unusedVariables false
set_option linter.unusedSimpArgs false
def lexlt : List Int → List Int → Bool
  | x :: a, y :: b => if x = y then lexlt a b else decide (x < y)
  | _, _ => false
theorem lexlt_irr : ∀ a, lexlt a a = false
  | [] => rfl
  | x :: a => by rw [lexlt, if_pos rfl]; exact lexlt_irr a
theorem lexlt_trans : ∀ a b c, lexlt a b = true → lexlt b c = true → lexlt a c = true
  | [], _, _, h, _ => by simp [lexlt] at h
  | _ :: _, [], _, h, _ => by simp [lexlt] at h
  | _ :: _, _ :: _, [], _, h => by simp [lexlt] at h
  | x :: a, y :: b, z :: c, h, h' => by
    rw [lexlt] at h h' ⊢
    split at h <;> split at h'
    · rw [if_pos (by omega)]; exact lexlt_trans a b c h h'
    · rw [if_neg (by omega)]; simp only [decide_eq_true_eq] at *; omega
    · rw [if_neg (by omega)]; simp only [decide_eq_true_eq] at *; omega
    · simp only [decide_eq_true_eq] at *
      rw [if_neg (by omega)]; simp only [decide_eq_true_eq]; omega
theorem lexlt_total : ∀ a b, a.length = b.length → lexlt a b = false → lexlt b a = false → a = b
  | [], [], _, _, _ => rfl
  | [], _ :: _, h, _, _ => by simp at h
  | _ :: _, [], h, _, _ => by simp at h
  | x :: a, y :: b, h, h1, h2 => by
    rw [lexlt] at h1 h2
    by_cases e : x = y
    · rw [if_pos e] at h1; rw [if_pos e.symm] at h2
      rw [e, lexlt_total a b (by simpa using h) h1 h2]
    · rw [if_neg e] at h1; rw [if_neg fun q => e q.symm] at h2
      simp only [decide_eq_false_iff_not] at *
      omega
def btr (a b : List Int) : Bool := decide (b.length < a.length) || (decide (a.length = b.length) && lexlt a b)
theorem btr_iff (a b : List Int) : btr a b = true ↔ b.length < a.length ∨ (a.length = b.length ∧ lexlt a b = true) := by
  simp [btr]
theorem btr_irr (a : List Int) : btr a a = false := by simp [btr, lexlt_irr]
theorem btr_trans (a b c : List Int) (h : btr a b = true) (h' : btr b c = true) : btr a c = true := by
  rw [btr_iff] at *
  rcases h with h | ⟨h, g⟩ <;> rcases h' with h' | ⟨h', g'⟩
  · left; omega
  · left; omega
  · left; omega
  · right; exact ⟨by omega, lexlt_trans _ _ _ g g'⟩
theorem btr_total (a b : List Int) (h : btr a b = false) (h' : btr b a = false) : a = b := by
  simp only [btr, Bool.or_eq_false_iff, Bool.and_eq_false_iff, decide_eq_false_iff_not] at h h'
  have e : a.length = b.length := by omega
  refine lexlt_total a b e ?_ ?_
  · rcases h.2 with h | h
    · exact absurd e h
    · exact h
  · rcases h'.2 with h | h
    · exact absurd e.symm h
    · exact h
/-- The better one of two. -/
def pick (a b : List Int) : List Int := if btr a b = true then a else b
theorem pick_cases (a b : List Int) : (pick a b = a ∧ btr b a = false) ∨ (pick a b = b ∧ btr a b = false) := by
  unfold pick
  split
  · rename_i h
    left
    refine ⟨rfl, ?_⟩
    cases e : btr b a
    · rfl
    · have := btr_trans _ _ _ h e
      rw [btr_irr] at this; cases this
  · rename_i h
    right
    exact ⟨rfl, by simpa using h⟩
theorem pick_or (a b : List Int) : pick a b = a ∨ pick a b = b := by
  rcases pick_cases a b with h | h
  · exact .inl h.1
  · exact .inr h.1
theorem pick_eq_left {a b : List Int} (h : btr b a = false) : pick a b = a := by
  rcases pick_cases a b with g | g
  · exact g.1
  · rw [g.1]; exact btr_total _ _ h g.2
theorem pick_eq_right {a b : List Int} (h : btr a b = false) : pick a b = b := by
  unfold pick; rw [h]; rfl
theorem pick_comm (a b : List Int) : pick a b = pick b a := by
  rcases pick_cases a b with g | g
  · rw [g.1, pick_eq_right g.2]
  · rw [g.1, pick_eq_left g.2]
theorem pick_assoc (a b c : List Int) : pick (pick a b) c = pick a (pick b c) := by
  have tr : ∀ x y z, btr y x = false → btr z y = false → btr z x = false := by
    intro x y z h1 h2
    cases e : btr z x
    · rfl
    · exfalso
      cases e2 : btr y z
      · have := btr_total _ _ e2 h2
        subst this
        rw [h1] at e; cases e
      · have := btr_trans _ _ _ e2 e
        rw [h1] at this; cases this
  rcases pick_cases a b with g | g <;> rcases pick_cases b c with k | k
  · rw [g.1, k.1, g.1, pick_eq_left (tr _ _ _ g.2 k.2)]
  · rw [g.1, k.1]
  · rw [g.1, k.1, g.1]
  · rw [g.1, k.1, pick_eq_right (tr _ _ _ k.2 g.2)]
theorem btr_nil (a : List Int) : btr [] a = false := by
  simp only [btr, Bool.or_eq_false_iff, Bool.and_eq_false_iff, decide_eq_false_iff_not]
  exact ⟨by simp, .inr (by simp [lexlt])⟩
theorem pick_nil (a : List Int) : pick [] a = a := pick_eq_right (btr_nil a)
theorem pick_nil' (a : List Int) : pick a [] = a := pick_eq_left (btr_nil a)
theorem pick_len (a b : List Int) : (pick a b).length = max a.length b.length := by
  have f : ∀ a b, btr b a = false → b.length ≤ a.length := by
    intro a b h
    simp only [btr, Bool.or_eq_false_iff, decide_eq_false_iff_not] at h
    omega
  rcases pick_cases a b with g | g
  · rw [g.1]; have := f _ _ g.2; omega
  · rw [g.1]; have := f _ _ g.2; omega
/-- The best ascending part of a list above a number. -/
def lis : Int → List Int → List Int
  | _, [] => []
  | x, y :: r => if x < y then pick (y :: lis y r) (lis x r) else lis x r
def Above (x : Int) : List Int → Prop
  | [] => True
  | y :: r => x < y ∧ Above y r
theorem lis_above : ∀ (r : List Int) (x : Int), Above x (lis x r)
  | [], _ => by rw [lis]; trivial
  | y :: r, x => by
    rw [lis]
    split
    · rename_i h
      rcases pick_or (y :: lis y r) (lis x r) with e | e
      · rw [e]; exact ⟨h, lis_above r y⟩
      · rw [e]; exact lis_above r x
    · exact lis_above r x
theorem lis_sub : ∀ (r : List Int) (x : Int), (lis x r).Sublist r
  | [], _ => by rw [lis]; exact .slnil
  | y :: r, x => by
    rw [lis]
    split
    · rcases pick_or (y :: lis y r) (lis x r) with e | e
      · rw [e]; exact (lis_sub r y).cons_cons y
      · rw [e]; exact (lis_sub r x).cons y
    · exact (lis_sub r x).cons y
theorem btr_cons (y : Int) (a b : List Int) : btr (y :: a) (y :: b) = btr a b := by
  simp [btr, lexlt]
theorem not_btr_trans {x y z : List Int} (h1 : btr y x = false) (h2 : btr z y = false) : btr z x = false := by
  cases e : btr z x
  · rfl
  · exfalso
    cases e2 : btr y z
    · have := btr_total _ _ e2 h2
      subst this
      rw [h1] at e; cases e
    · have := btr_trans _ _ _ e2 e
      rw [h1] at this; cases this
theorem pick_ge_left (a b : List Int) : btr a (pick a b) = false := by
  rcases pick_cases a b with g | g
  · rw [g.1]; exact btr_irr _
  · rw [g.1]; exact g.2
theorem pick_ge_right (a b : List Int) : btr b (pick a b) = false := by
  rw [pick_comm]; exact pick_ge_left b a
/-- No ascending part is better. -/
theorem lis_best : ∀ (r : List Int) (x : Int) (M : List Int), M.Sublist r → Above x M → btr M (lis x r) = false
  | [], x, M, hs, ha => by
    rw [List.sublist_nil] at hs
    subst hs; exact btr_nil _
  | y :: r, x, [], hs, ha => btr_nil _
  | y :: r, x, m :: M, hs, ha => by
    rw [lis]
    rcases List.sublist_cons_iff.1 hs with h | ⟨M', e, h⟩
    · have := lis_best r x _ h ha
      split
      · exact not_btr_trans (pick_ge_right _ _) this
      · exact this
    · injection e with e1 e2
      subst e1; subst e2
      rw [if_pos ha.1]
      refine not_btr_trans (pick_ge_left _ _) ?_
      rw [btr_cons]
      exact lis_best r m M h ha.2
/-- The lengths. -/
def lenF (x : Int) (r : List Int) : Nat := (lis x r).length
theorem lenF_nil (x : Int) : lenF x [] = 0 := by unfold lenF; rw [lis]; rfl
theorem lenF_cons (x y : Int) (r : List Int) : lenF x (y :: r) = if x < y then max (1 + lenF y r) (lenF x r) else lenF x r := by
  unfold lenF
  rw [lis]
  split
  · rw [pick_len, List.length_cons, Nat.add_comm]
  · rfl
theorem lenF_le : ∀ (r : List Int) (x : Int), lenF x r ≤ r.length := fun r x => (lis_sub r x).length_le
def longs (l : List Int) (i : Nat) : Nat := 1 + lenF (l.getD i 0) (l.drop (i + 1))
theorem lis_drop (x : Int) (l : List Int) (k : Nat) (h : k < l.length) : lis x (l.drop k) = if x < l.getD k 0 then pick (l.getD k 0 :: lis (l.getD k 0) (l.drop (k + 1))) (lis x (l.drop (k + 1))) else lis x (l.drop (k + 1)) := by
  rw [drop_getD l k h, lis]
theorem lenF_drop (x : Int) (l : List Int) (k : Nat) (h : k < l.length) : lenF x (l.drop k) = if x < l.getD k 0 then max (longs l k) (lenF x (l.drop (k + 1))) else lenF x (l.drop (k + 1)) := by
  rw [drop_getD l k h, lenF_cons]; rfl
/-- What the greedy search has found so far. -/
def curL (l : List Int) : Option Nat → List Int
  | none => []
  | some b => l.getD b 0 :: lis (l.getD b 0) (l.drop (b + 1))
structure Greedy (l : List Int) (x : Int) (T : List Int) (k : Nat) (from_ : Nat) (b : Option Nat) : Prop where
  h : pick (curL l b) (lis x (l.drop k)) = T
  hb : ∀ i, b = some i → from_ ≤ i ∧ i < k ∧ x < l.getD i 0 ∧ longs l i = T.length
theorem curL_len (l : List Int) (i : Nat) : (curL l (some i)).length = longs l i := by
  unfold curL longs lenF
  rw [List.length_cons, Nat.add_comm]
theorem Greedy.skip {l : List Int} {x : Int} {T : List Int} {k f : Nat} {b : Option Nat} (g : Greedy l x T k f b) (hk : k < l.length) (hx : ¬ x < l.getD k 0) : Greedy l x T (k + 1) f b := by
  refine ⟨?_, fun i hi => ?_⟩
  · have := g.h
    rw [lis_drop x l k hk, if_neg hx] at this
    exact this
  · obtain ⟨a1, a2, a3, a4⟩ := g.hb i hi
    exact ⟨a1, by omega, a3, a4⟩
theorem Greedy.other {l : List Int} {x : Int} {T : List Int} {k f : Nat} {b : Option Nat} (g : Greedy l x T k f b) (hk : k < l.length) (hl : longs l k ≠ T.length) : Greedy l x T (k + 1) f b := by
  by_cases hx : x < l.getD k 0
  · refine ⟨?_, fun i hi => ?_⟩
    · have := g.h
      rw [lis_drop x l k hk, if_pos hx, ← pick_assoc, pick_comm (curL l b), pick_assoc] at this
      rcases pick_or (l.getD k 0 :: lis (l.getD k 0) (l.drop (k + 1))) (pick (curL l b) (lis x (l.drop (k + 1)))) with e | e
      · exfalso
        rw [this] at e
        apply hl
        rw [e]; exact (curL_len l k).symm
      · rw [← e]; exact this
    · obtain ⟨a1, a2, a3, a4⟩ := g.hb i hi
      exact ⟨a1, by omega, a3, a4⟩
  · exact g.skip hk hx
theorem Greedy.worse {l : List Int} {x : Int} {T : List Int} {k f i : Nat} (g : Greedy l x T k f (some i)) (hk : k < l.length) (hn : l.getD i 0 < l.getD k 0) : Greedy l x T (k + 1) f (some i) := by
  by_cases hl : longs l k = T.length
  · by_cases hx : x < l.getD k 0
    · obtain ⟨a1, a2, a3, a4⟩ := g.hb i rfl
      refine ⟨?_, fun j hj => ?_⟩
      · have := g.h
        rw [lis_drop x l k hk, if_pos hx, ← pick_assoc, show pick (curL l (some i)) (l.getD k 0 :: lis (l.getD k 0) (l.drop (k + 1))) = curL l (some i) from ?_] at this
        · exact this
        · refine if_pos ?_
          rw [btr_iff]
          right
          refine ⟨?_, ?_⟩
          · rw [curL_len, a4, ← hl]; exact (curL_len l k).symm
          · rw [curL, lexlt, if_neg (by omega)]; simp only [decide_eq_true_eq]; exact hn
      · cases hj
        exact ⟨a1, by omega, a3, a4⟩
    · exact g.skip hk hx
  · exact g.other hk hl
theorem Greedy.take {l : List Int} {x : Int} {T : List Int} {k f : Nat} {b : Option Nat} (g : Greedy l x T k f b) (hk : k < l.length) (hf : f ≤ k) (hx : x < l.getD k 0) (hl : longs l k = T.length) (hn : ∀ i, b = some i → l.getD k 0 < l.getD i 0) : Greedy l x T (k + 1) f (some k) := by
  refine ⟨?_, fun j hj => ?_⟩
  · have := g.h
    rw [lis_drop x l k hk, if_pos hx, ← pick_assoc, show pick (curL l b) (l.getD k 0 :: lis (l.getD k 0) (l.drop (k + 1))) = curL l (some k) from ?_] at this
    · exact this
    · refine pick_eq_right ?_
      rcases b with _ | i
      · exact btr_nil _
      · obtain ⟨a1, a2, a3, a4⟩ := g.hb i rfl
        have := hn i rfl
        have e : (curL l (some i)).length = (l.getD k 0 :: lis (l.getD k 0) (l.drop (k + 1))).length := by
          rw [curL_len, a4, ← hl]; exact (curL_len l k).symm
        simp only [btr, Bool.or_eq_false_iff, Bool.and_eq_false_iff, decide_eq_false_iff_not]
        refine ⟨by omega, .inr ?_⟩
        rw [curL, lexlt, if_neg (by omega)]; simp only [decide_eq_false_iff_not]; omega
  · cases hj
    exact ⟨hf, by omega, hx, hl⟩
theorem Greedy.last {l : List Int} {x : Int} {T : List Int} {k f : Nat} {b : Option Nat} (g : Greedy l x T k f b) (hk : l.length ≤ k) (hT : 0 < T.length) : ∃ i, b = some i ∧ T = l.getD i 0 :: lis (l.getD i 0) (l.drop (i + 1)) ∧ f ≤ i ∧ i < k ∧ x < l.getD i 0 := by
  have := g.h
  rw [List.drop_eq_nil_of_le hk, lis, pick_nil'] at this
  rcases b with _ | i
  · rw [← this] at hT; simp [curL] at hT
  · obtain ⟨a1, a2, a3, a4⟩ := g.hb i rfl
    exact ⟨i, rfl, this.symm, a1, a2, a3⟩
end Go.Sx.T
