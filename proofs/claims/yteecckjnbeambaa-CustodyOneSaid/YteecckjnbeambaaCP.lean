/- Contracts of functions of the program, each proved by running its code symbolically (CP). -/
import Derived.Test.YteecckjnbeambaaCO
/- The stays of a box: what they say of its place. -/
namespace Go.Sx.T
open Go Go.Proofs Go.Sx
set_option linter.unusedVariables false
set_option linter.unusedSimpArgs false
/-- Where a box is on a day, by its moves. -/
def placeAt (h : List Move) (d : Int) : Place := h.foldl (fun p m => if m.Day ≤ d then m.To else p) ⟨0, 0⟩
theorem placeAt_snoc (h : List Move) (m : Move) (d : Int) : placeAt (h ++ [m]) d = if m.Day ≤ d then m.To else placeAt h d := by simp [placeAt]
def Asc (l : List Move) : Prop := ∀ i j, i ≤ j → j < l.length → (l.getD i default).Day ≤ (l.getD j default).Day
theorem asc_pw {l : List Move} : Asc l ↔ l.Pairwise (fun a b => a.Day ≤ b.Day) := by
  rw [List.pairwise_iff_getElem]
  constructor
  · intro h i j hi hj hij
    have := h i j (by omega) hj
    rwa [getD_of_lt l i hi, getD_of_lt l j hj] at this
  · intro h i j hij hj
    rcases Nat.lt_or_ge i j with hlt | hge
    · have := h i j (by omega) hj hlt
      rwa [getD_of_lt l i (by omega), getD_of_lt l j hj]
    · have : i = j := by omega
      subst this; exact Int.le_refl _
theorem asc_of_check {l : List Move} (h : checkL l = 0) : Asc l := fun i j hij hj => days_le h i j hij hj
theorem asc_hist {l : List Move} (h : Asc l) (b : Int) : Asc (histL l b) := asc_pw.2 ((asc_pw.1 h).filter _)
theorem until_snoc_gt (l : List Move) (m : Move) (d : Int) (h : d < m.Day) : untilL (l ++ [m]) d = untilL l d := by
  unfold untilL
  rw [List.takeWhile_append]
  split
  · rename_i e
    have e2 : (l.takeWhile fun m => decide (m.Day ≤ d)) = l := by
      have := (List.takeWhile_prefix (p := fun m : Move => decide (m.Day ≤ d)) (l := l))
      exact this.eq_of_length e
    rw [e2, List.takeWhile_cons_of_neg (by simpa using h), List.append_nil]
  · rfl
theorem until_all (l : List Move) (d : Int) (h : ∀ m ∈ l, m.Day ≤ d) : untilL l d = l := by
  unfold untilL
  induction l with
  | nil => rfl
  | cons m r ih =>
    rw [List.takeWhile_cons_of_pos (by simpa using h m (by simp)), ih fun x hx => h x (by simp [hx])]
theorem last_until (l : List Move) (d b : Int) (h : Asc l) : lastP (untilL l d) b = placeAt (histL l b) d := by
  induction l using rev_ind with
  | h0 => rfl
  | h1 l m ih =>
    have hpw := asc_pw.1 h
    rw [List.pairwise_append] at hpw
    have ih := ih (asc_pw.2 hpw.1)
    have hle : ∀ x ∈ l, x.Day ≤ m.Day := fun x hx => hpw.2.2 x hx m (by simp)
    have hh : histL (l ++ [m]) b = if m.Box = b then histL l b ++ [m] else histL l b := by
      unfold histL
      rw [List.filter_append]
      by_cases e : m.Box = b <;> simp [e]
    rw [hh]
    by_cases hd : m.Day ≤ d
    · have e1 : untilL l d = l := until_all l d fun x hx => Int.le_trans (hle x hx) hd
      have e2 : untilL (l ++ [m]) d = l ++ [m] := until_all _ d fun x hx => by
        rcases List.mem_append.1 hx with hx | hx
        · exact Int.le_trans (hle x hx) hd
        · simp at hx; subst hx; exact hd
      rw [e1] at ih
      rw [e2, lastP_snoc, ih]
      by_cases e : m.Box = b
      · rw [if_pos e, if_pos e, placeAt_snoc, if_pos hd]
      · rw [if_neg e, if_neg e]
    · rw [until_snoc_gt l m d (by omega), ih]
      by_cases e : m.Box = b
      · rw [if_pos e, placeAt_snoc, if_neg hd]
      · rw [if_neg e]
theorem placeAt_none (h : List Move) (d : Int) (hd : ∀ j, j < h.length → d < (h.getD j default).Day) : placeAt h d = ⟨0, 0⟩ := by
  induction h using rev_ind with
  | h0 => rfl
  | h1 h m ih =>
    have hm := hd h.length (by simp)
    rw [getD_append_right _ _ _ (Nat.le_refl _), Nat.sub_self] at hm
    rw [placeAt_snoc, if_neg (by simp only [List.getD_cons_zero] at hm; omega)]
    exact ih fun j hj => by have := hd j (by simp; omega); rwa [getD_append_left _ _ _ hj] at this
theorem placeAt_some (h : List Move) (d : Int) (i : Nat) (hi : i < h.length) (h1 : (h.getD i default).Day ≤ d) (h2 : ∀ j, i < j → j < h.length → d < (h.getD j default).Day) : placeAt h d = (h.getD i default).To := by
  induction h using rev_ind with
  | h0 => simp at hi
  | h1 h m ih =>
    rw [placeAt_snoc]
    by_cases e : i = h.length
    · subst e
      rw [getD_append_right _ _ _ (Nat.le_refl _), Nat.sub_self] at h1 ⊢
      simp only [List.getD_cons_zero] at h1 ⊢
      rw [if_pos h1]
    · have hil : i < h.length := by simp at hi; omega
      have hm := h2 h.length (by omega) (by simp)
      rw [getD_append_right _ _ _ (Nat.le_refl _), Nat.sub_self] at hm
      simp only [List.getD_cons_zero] at hm
      rw [if_neg (by omega), getD_append_left _ _ _ hil]
      rw [getD_append_left _ _ _ hil] at h1
      exact ih hil h1 fun j hj hjl => by have := h2 j hj (by simp; omega); rwa [getD_append_left _ _ _ hjl] at this
structure StayI (h : List Move) (i : Nat) (q : List Place × List Span) : Prop where
  len : q.1.length = q.2.length
  pos : 0 < q.2.length
  first : (q.2.getD 0 default).From = 0
  last : (q.2.getD (q.2.length - 1) default).Until = 1048576
  each : ∀ j, j < q.2.length → (q.2.getD j default).From < (q.2.getD j default).Until
  next : ∀ j, j + 1 < q.2.length → (q.2.getD j default).Until = (q.2.getD (j + 1) default).From ∧ q.1.getD j default ≠ q.1.getD (j + 1) default
  fresh : 1 < q.2.length → i < h.length → (q.2.getD (q.2.length - 1) default).From < (h.getD i default).Day
  now : ∀ d, 0 ≤ d → (i < h.length → d < (h.getD i default).Day) → ∀ j, j < q.2.length → (q.2.getD j default).From ≤ d → d < (q.2.getD j default).Until → q.1.getD j default = placeAt h d
theorem StayI.until_le {h : List Move} {i : Nat} {q : List Place × List Span} (H : StayI h i q) : ∀ n j, j + n + 1 < q.2.length → (q.2.getD j default).Until ≤ (q.2.getD (j + n + 1) default).From
  | 0, j, hj => by rw [(H.next j hj).1]; exact Int.le_refl _
  | n + 1, j, hj => by
    have h1 := H.until_le n j (by omega)
    have h2 := H.each (j + n + 1) (by omega)
    have h3 := (H.next (j + n + 1) (by omega)).1
    have : j + (n + 1) + 1 = j + n + 1 + 1 := by omega
    rw [this]; omega
theorem stay_start (h : List Move) (ha : Asc h) : StayI h 0 (stayN h 0) := by
  refine ⟨rfl, Nat.one_pos, rfl, rfl, fun j hj => ?_, fun j hj => ?_, fun hj => ?_, fun d hd hn j hj _ _ => ?_⟩
  · have : j = 0 := by have : j < 1 := hj; omega
    subst this; show (0 : Int) < 1048576; decide
  · have : j + 1 < 1 := hj; omega
  · have : 1 < 1 := hj; omega
  · have : j = 0 := by have : j < 1 := hj; omega
    subst this
    show (⟨0, 0⟩ : Place) = _
    rw [placeAt_none]
    intro k hk
    have := hn (by omega)
    have := ha 0 k (by omega) hk
    omega
theorem stay_step (h : List Move) (ha : Asc h) (hr : ∀ j, j < h.length → 0 ≤ (h.getD j default).Day ∧ (h.getD j default).Day ≤ 1048575) (i : Nat) (hi : i < h.length) (H : StayI h i (stayN h i)) : StayI h (i + 1) (stayN h (i + 1)) := by
  rw [stayN]
  by_cases hs : skipS h i = true
  · rw [if_pos hs]
    simp only [skipS, Bool.and_eq_true, decide_eq_true_eq] at hs
    exact ⟨H.len, H.pos, H.first, H.last, H.each, H.next, fun h1 h2 => by rw [hs.2]; exact H.fresh h1 hi, fun d hd hn j hj => H.now d hd (fun _ => by rw [← hs.2]; exact hn hs.1) j hj⟩
  · rw [if_neg hs]
    have hlt : i + 1 < h.length → (h.getD i default).Day < (h.getD (i + 1) default).Day := fun hl => by
      have h1 := ha i (i + 1) (by omega) hl
      have h2 : (h.getD (i + 1) default).Day ≠ (h.getD i default).Day := fun e => hs (by simp only [skipS, Bool.and_eq_true, decide_eq_true_eq]; exact ⟨hl, e⟩)
      omega
    have hmr := hr i hi
    have hplace : ∀ d, (h.getD i default).Day ≤ d → (i + 1 < h.length → d < (h.getD (i + 1) default).Day) → placeAt h d = (h.getD i default).To := fun d h1 h2 =>
      placeAt_some h d i hi h1 fun j hj hjl => by
        have := h2 (by omega)
        have := ha (i + 1) j (by omega) hjl
        omega
    generalize stayN h i = q at H
    generalize hm : h.getD i default = m at *
    obtain ⟨ps, ss⟩ := q
    have hlen : ps.length = ss.length := H.len
    have hpos : 0 < ss.length := H.pos
    have hfrom : (ss.getD (ss.length - 1) default).From ≤ m.Day := by
      by_cases e : ss.length = 1
      · have := H.first; simp only at this
        rw [e, this]; omega
      · have := H.fresh (by simp only; omega) hi
        rw [hm] at this
        simp only at this
        omega
    have hbef : ∀ j, j < ss.length - 1 → (ss.getD j default).Until ≤ (ss.getD (ss.length - 1) default).From := fun j hj => by
      have := H.until_le (ss.length - 1 - j - 1) j (by simp only; omega)
      rwa [show j + (ss.length - 1 - j - 1) + 1 = ss.length - 1 by omega] at this
    unfold stayStep
    simp only
    by_cases h1 : ps.getD (ps.length - 1) default = m.To
    · rw [if_pos h1]
      refine ⟨H.len, H.pos, H.first, H.last, H.each, H.next, fun h2 h3 => ?_, fun d hd hn j hj hj1 hj2 => ?_⟩
      · have := H.fresh h2 hi
        rw [hm] at this
        have := hlt h3
        simp only at *
        omega
      · simp only at hj hj1 hj2 ⊢
        rcases Int.lt_or_le d m.Day with hdm | hdm
        · exact H.now d hd (fun _ => by rw [hm]; exact hdm) j hj hj1 hj2
        · have hjK : j = ss.length - 1 := by
            refine Classical.byContradiction fun hne => ?_
            have := hbef j (by omega)
            omega
          rw [hplace d hdm hn, ← h1, hjK, hlen]
    · rw [if_neg h1]
      by_cases h2 : (ss.getD (ps.length - 1) default).From = m.Day
      · rw [if_pos h2]
        have e1 : ss.length = 1 := by
          refine Classical.byContradiction fun hne => ?_
          have := H.fresh (by simp only; omega) hi
          rw [hm] at this
          simp only at this
          rw [hlen] at h2
          omega
        have hps : ps.length = 1 := by omega
        have hf := H.first
        simp only at hf
        refine ⟨by simp only [List.length_set]; exact hlen, hpos, H.first, H.last, H.each, fun j hj => ?_, fun h3 => ?_, fun d hd hn j hj hj1 hj2 => ?_⟩
        · simp only at hj; omega
        · simp only at h3; omega
        · simp only at hj hj1 hj2 ⊢
          have : j = 0 := by omega
          subst this
          rw [hps] at h2 ⊢
          rw [getD_set _ _ _ _ (by omega), if_pos rfl, hplace d (by rw [← h2]; exact hj1) hn]
      · rw [if_neg h2]
        rw [hlen] at h1 h2 ⊢
        have hlt2 : (ss.getD (ss.length - 1) default).From < m.Day := by omega
        have g1 : ∀ j, j < ss.length - 1 → ((ss.set (ss.length - 1) ⟨(ss.getD (ss.length - 1) default).From, m.Day⟩ ++ [⟨m.Day, 1048576⟩] : List Span)).getD j default = ss.getD j default := fun j hj => by
          rw [getD_append_left _ _ _ (by simp; omega), getD_set _ _ _ _ (by omega), if_neg (by omega)]
        have g2 : ((ss.set (ss.length - 1) ⟨(ss.getD (ss.length - 1) default).From, m.Day⟩ ++ [⟨m.Day, 1048576⟩] : List Span)).getD (ss.length - 1) default = ⟨(ss.getD (ss.length - 1) default).From, m.Day⟩ := by
          rw [getD_append_left _ _ _ (by simp; omega), getD_set _ _ _ _ (by omega), if_pos rfl]
        have g3 : ((ss.set (ss.length - 1) ⟨(ss.getD (ss.length - 1) default).From, m.Day⟩ ++ [⟨m.Day, 1048576⟩] : List Span)).getD ss.length default = ⟨m.Day, 1048576⟩ := by
          rw [getD_append_right _ _ _ (by simp), List.length_set, Nat.sub_self]; rfl
        have gl : ((ss.set (ss.length - 1) ⟨(ss.getD (ss.length - 1) default).From, m.Day⟩ ++ [⟨m.Day, 1048576⟩] : List Span)).length = ss.length + 1 := by simp
        have p1 : ∀ j, j < ss.length → (ps ++ [m.To]).getD j default = ps.getD j default := fun j hj => getD_append_left _ _ _ (by omega)
        have p2 : (ps ++ [m.To]).getD ss.length default = m.To := by rw [getD_append_right _ _ _ (by omega), hlen, Nat.sub_self]; rfl
        generalize (ss.set (ss.length - 1) ⟨(ss.getD (ss.length - 1) default).From, m.Day⟩ ++ [⟨m.Day, 1048576⟩] : List Span) = ss' at *
        have hE := H.each
        have hN := H.next
        have hF := H.first
        simp only at hE hN hF
        refine ⟨by simp only [List.length_append, List.length_singleton]; omega, by simp only; omega, ?_, ?_, fun j hj => ?_, fun j hj => ?_, fun h3 h4 => ?_, fun d hd hn j hj hj1 hj2 => ?_⟩
        · simp only
          by_cases e : ss.length = 1
          · rw [e] at g2
            rw [show (0 : Nat) = 1 - 1 from rfl, g2]
            simp only
            exact hF
          · rw [g1 0 (by omega)]; exact hF
        · simp only
          rw [gl, Nat.add_sub_cancel, g3]
        · simp only at hj ⊢
          rcases Nat.lt_trichotomy j (ss.length - 1) with h | h | h
          · rw [g1 j h]; exact hE j (by omega)
          · rw [h, g2]; exact hlt2
          · have : j = ss.length := by omega
            rw [this, g3]; show m.Day < 1048576; omega
        · simp only at hj ⊢
          rcases Nat.lt_trichotomy j (ss.length - 1) with h | h | h
          · have h5 := hN j (by omega)
            rw [g1 j h, p1 j (by omega), p1 (j + 1) (by omega)]
            refine ⟨?_, h5.2⟩
            rcases Nat.lt_or_ge (j + 1) (ss.length - 1) with h6 | h6
            · rw [g1 _ h6]; exact h5.1
            · have : j + 1 = ss.length - 1 := by omega
              rw [this, g2, ← this]; exact h5.1
          · have e : ss.length - 1 + 1 = ss.length := by omega
            rw [h, e, g2, g3, p1 _ (by omega), p2]
            exact ⟨rfl, h1⟩
          · omega
        · simp only
          rw [gl, Nat.add_sub_cancel, g3]
          exact hlt h4
        · simp only at hj hj1 hj2 ⊢
          rcases Nat.lt_trichotomy j (ss.length - 1) with h | h | h
          · rw [g1 j h] at hj1 hj2
            rw [p1 j (by omega)]
            have := hbef j h
            exact H.now d hd (fun _ => by rw [hm]; omega) j (by simp only; omega) hj1 hj2
          · rw [h, g2] at hj1 hj2
            simp only at hj1 hj2
            rw [h, p1 _ (by omega)]
            have hl := H.last
            simp only at hl
            exact H.now d hd (fun _ => by rw [hm]; omega) _ (by simp only; omega) hj1 (by simp only; omega)
          · have e : j = ss.length := by omega
            subst e
            rw [g3] at hj1
            simp only at hj1
            rw [p2, hplace d hj1 hn]
theorem stay_all (h : List Move) (ha : Asc h) (hr : ∀ j, j < h.length → 0 ≤ (h.getD j default).Day ∧ (h.getD j default).Day ≤ 1048575) : ∀ i, i ≤ h.length → StayI h i (stayN h i)
  | 0, _ => stay_start h ha
  | i + 1, hi => stay_step h ha hr i (by omega) (stay_all h ha hr i (by omega))
end Go.Sx.T
