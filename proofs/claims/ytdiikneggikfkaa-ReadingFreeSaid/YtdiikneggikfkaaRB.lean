/- Contracts of functions of the program, each proved by running its code symbolically (RB). -/
import Derived.Test.YtdiikneggikfkaaRA
/- Bookings: admitting, cancelling, the free day; plainly. -/
namespace Go.Sx.T
open Go Go.Sx
set_option linter.unusedVariables false
def admitL (s : Int) (l : List Bk) (b : Bk) : List Bk × Int :=
  if checkL s l ≠ 0 then ([], 1) else if 1024 ≤ (l.length : Int) then ([], 8) else if faultP s l b ≠ 0 then ([], faultP s l b) else (l ++ [b], 0)
theorem admit_ok {s : Int} {l : List Bk} {b : Bk} (h : (admitL s l b).2 = 0) : Right s (l ++ [b]) ∧ (admitL s l b).1 = l ++ [b] := by
  unfold admitL at h ⊢
  split at h
  · simp at h
  · rename_i h1
    split at h
    · simp at h
    · rename_i h2
      split at h
      · rename_i h3; exact (h3 h).elim
      · rename_i h3
        rw [if_neg h1, if_neg h2, if_neg h3]
        refine ⟨right_snoc.2 ⟨right_iff.1 (by simpa using h1), by omega, faultP_zero.1 (by simpa using h3)⟩, rfl⟩
theorem admit_bad {s : Int} {l : List Bk} {b : Bk} (h : (admitL s l b).2 ≠ 0) : (admitL s l b).1 = [] := by
  unfold admitL at h ⊢
  split
  · rfl
  · split
    · rfl
    · split
      · rfl
      · rename_i h1 h2 h3
        rw [if_neg h1, if_neg h2, if_neg h3] at h
        exact (h rfl).elim
def cutL (l : List Bk) (i : Nat) (day : Int) : List Bk :=
  if day ≤ (l.getD i default).F then l.eraseIdx i else l.set i ⟨(l.getD i default).ID, (l.getD i default).Rd, (l.getD i default).F, day⟩
def idIs (id : Int) (b : Bk) : Bool := decide (b.ID = id)
def cancelL (s : Int) (l : List Bk) (id day : Int) : List Bk × Int :=
  if checkL s l ≠ 0 then ([], 1) else if findI l (idIs id) < 0 then ([], 7) else if (decide (day < 0) || decide (1048575 < day)) = true then ([], 2)
  else if (l.getD (findI l (idIs id)).toNat default).U ≤ day then ([], 11) else (cutL l (findI l (idIs id)).toNat day, 0)
/-- As the reference does it: element by element. -/
def canF (id day : Int) (b : Bk) : List Bk := if b.ID = id then (if day ≤ b.F then [] else [⟨b.ID, b.Rd, b.F, day⟩]) else [b]
def canL (l : List Bk) (id day : Int) : List Bk := l.flatMap (canF id day)
theorem canL_snoc (l : List Bk) (id day : Int) (b : Bk) : canL (l ++ [b]) id day = canL l id day ++ canF id day b := by
  unfold canL; rw [List.flatMap_append]; simp
theorem canL_len (id day : Int) : ∀ l : List Bk, (canL l id day).length ≤ l.length
  | [] => Nat.le_refl _
  | b :: r => by
    have h := canL_len id day r
    unfold canL at h ⊢
    rw [List.flatMap_cons, List.length_append]
    have : (canF id day b).length ≤ 1 := by unfold canF; split <;> (try split) <;> simp
    simp only [List.length_cons]; omega
theorem canL_none (id day : Int) : ∀ l : List Bk, (∀ b ∈ l, b.ID ≠ id) → canL l id day = l
  | [], _ => rfl
  | b :: r, h => by
    have h1 := canL_none id day r fun x hx => h x (by simp [hx])
    unfold canL at h1 ⊢
    rw [List.flatMap_cons, h1, canF, if_neg (h b (by simp))]; rfl
theorem canL_cut {l : List Bk} {id day : Int} {i : Nat} (hi : i < l.length) (he : (l.getD i default).ID = id) (hp : l.Pairwise fun a b => a.ID < b.ID) : canL l id day = cutL l i day := by
  have hsplit : l = l.take i ++ l.getD i default :: l.drop (i + 1) := by
    rw [← drop_cons l default i hi, List.take_append_drop]
  have h1 : ∀ b ∈ l.take i, b.ID ≠ id := fun b hb => by
    obtain ⟨j, hj, rfl⟩ := List.mem_iff_getElem.1 hb
    have hj' : j < i := by rw [List.length_take] at hj; omega
    have := List.pairwise_iff_getElem.1 hp j i (by omega) hi hj'
    rw [getD_of_lt l i hi] at he
    rw [List.getElem_take]; omega
  have h2 : ∀ b ∈ l.drop (i + 1), b.ID ≠ id := fun b hb => by
    obtain ⟨j, hj, rfl⟩ := List.mem_iff_getElem.1 hb
    rw [List.length_drop] at hj
    have := List.pairwise_iff_getElem.1 hp i (i + 1 + j) hi (by omega) (by omega)
    rw [getD_of_lt l i hi] at he
    rw [List.getElem_drop]; omega
  have e1 : canL l id day = l.take i ++ canF id day (l.getD i default) ++ l.drop (i + 1) := by
    have a1 := canL_none id day _ h1
    have a2 := canL_none id day _ h2
    unfold canL at a1 a2
    have : canL (l.take i ++ l.getD i default :: l.drop (i + 1)) id day = l.take i ++ canF id day (l.getD i default) ++ l.drop (i + 1) := by
      unfold canL
      rw [List.flatMap_append, List.flatMap_cons, a1, a2, List.append_assoc]
    rwa [← hsplit] at this
  rw [e1]
  unfold canF cutL
  rw [if_pos he]
  split
  · rw [List.append_nil, List.eraseIdx_eq_take_drop_succ]
  · rw [List.set_eq_take_append_cons_drop, if_pos hi, List.append_assoc]; rfl
theorem findI_last {l : List Bk} {b : Bk} (h : ∀ x ∈ l, x.ID < b.ID) : findI (l ++ [b]) (idIs b.ID) = l.length := by
  refine findI_hit _ _ _ (by simp) ?_ fun j hj => ?_
  · rw [getD_append_right _ _ _ (Nat.le_refl _), Nat.sub_self]; simp [idIs]
  · rw [getD_append_left _ _ _ hj]
    have := h _ (getD_mem' (d := default) l j hj)
    unfold idIs
    rw [decide_eq_false_iff_not]; omega
theorem undone {s : Int} {l : List Bk} {b : Bk} (h : Right s (l ++ [b])) : cancelL s (l ++ [b]) b.ID b.F = (l, 0) := by
  obtain ⟨_, _, hf⟩ := right_snoc.1 h
  have hp := right_ids h
  rw [List.pairwise_append] at hp
  have hfi := findI_last fun x hx => hp.2.2 x hx b (by simp)
  have hsp := okSpan_iff.1 hf.span
  have hg : (l ++ [b]).getD l.length default = b := by rw [getD_append_right _ _ _ (Nat.le_refl _), Nat.sub_self]; rfl
  unfold cancelL
  rw [if_neg (by rw [right_iff.2 h]; decide), hfi, if_neg (by omega), if_neg (by simp; omega), Int.toNat_natCast, hg, if_neg (by omega)]
  unfold cutL
  rw [hg, if_pos (Int.le_refl _), List.eraseIdx_append_of_length_le (Nat.le_refl _), Nat.sub_self]
  simp

/-! The free day. -/

def candL (l : List Bk) (from' : Int) : List Int := from' :: (l.filter fun b => decide (from' < b.U)).map Bk.U
theorem candL_mem {l : List Bk} {a x : Int} : x ∈ candL l a ↔ x = a ∨ ∃ b ∈ l, a < b.U ∧ b.U = x := by
  unfold candL
  simp only [List.mem_cons, List.mem_map, List.mem_filter, decide_eq_true_eq]
  constructor
  · rintro (h | ⟨b, ⟨h1, h2⟩, h3⟩)
    · exact .inl h
    · exact .inr ⟨b, h1, h2, h3⟩
  · rintro (h | ⟨b, h1, h2, h3⟩)
    · exact .inl h
    · exact .inr ⟨b, ⟨h1, h2⟩, h3⟩
theorem candL_len (l : List Bk) (a : Int) : (candL l a).length ≤ l.length + 1 := by
  unfold candL; have := List.length_filter_le (fun b : Bk => decide (a < b.U)) l; simp only [List.length_cons, List.length_map]; omega
def fitD (s : Int) (l : List Bk) (r days d : Int) : Bool := okSpan d (d + days) && !busyL l r d (d + days) && !fullP l d (d + days) s
theorem fitD_iff {s : Int} {l : List Bk} {r days d : Int} : fitD s l r days d = true ↔ okSpan d (d + days) = true ∧ (∀ b ∈ l, b.Rd = r → ¬ (b.F < d + days ∧ d < b.U)) ∧ ∀ x, d ≤ x → x < d + days → (loadL l x : Int) < s := by
  unfold fitD
  simp only [Bool.and_eq_true, Bool.not_eq_true', and_assoc]
  constructor
  · rintro ⟨h1, h2, h3⟩
    refine ⟨h1, fun b hb e hm => ?_, fun x hx1 hx2 => Int.lt_of_not_ge fun hge => ?_⟩
    · rw [busyL_iff.2 ⟨b, hb, e, hm.1, hm.2⟩] at h2; cases h2
    · rw [(fullP_iff (okSpan_iff.1 h1).2.1).2 ⟨x, hx1, hx2, hge⟩] at h3; cases h3
  · rintro ⟨h1, h2, h3⟩
    refine ⟨h1, Bool.eq_false_iff.2 fun h => ?_, Bool.eq_false_iff.2 fun h => ?_⟩
    · obtain ⟨b, hb, e, h4, h5⟩ := busyL_iff.1 h
      exact h2 b hb e ⟨h4, h5⟩
    · obtain ⟨x, hx1, hx2, h4⟩ := (fullP_iff (okSpan_iff.1 h1).2.1).1 h
      have := h3 x hx1 hx2; omega
theorem fit_cand {s : Int} {l : List Bk} {r days a d : Int} (ha : 0 ≤ a) (had : a ≤ d) (h : fitD s l r days d = true) : ∃ c ∈ candL l a, c ≤ d ∧ fitD s l r days c = true := by
  obtain ⟨h1, h2, h3⟩ := fitD_iff.1 h
  have hs := okSpan_iff.1 h1
  obtain ⟨c, hc, hmax⟩ := exists_max ((candL l a).filter fun x => decide (x ≤ d)) (by
    unfold candL
    rw [List.filter_cons_of_pos (by simpa using had)]
    simp)
  rw [List.mem_filter, decide_eq_true_eq] at hc
  have hmax : ∀ x, x ∈ candL l a → x ≤ d → x ≤ c := fun x hx hxd => hmax x (List.mem_filter.2 ⟨hx, by simpa using hxd⟩)
  have hac : a ≤ c := hmax a (candL_mem.2 (.inl rfl)) had
  -- nothing ends behind c and up to d
  have hend : ∀ b ∈ l, c < b.U → d < b.U := fun b hb hcb => Int.lt_of_not_ge fun hge => by
    have := hmax b.U (candL_mem.2 (.inr ⟨b, hb, by omega, rfl⟩)) hge
    omega
  refine ⟨c, hc.1, hc.2, fitD_iff.2 ⟨okSpan_iff.2 ⟨by omega, by omega, by omega⟩, fun b hb e hm => h2 b hb e ⟨by omega, hend b hb hm.2⟩, fun x hx1 hx2 => ?_⟩⟩
  by_cases hxd : d ≤ x
  · exact h3 x hxd (by omega)
  · have hle : loadL l x ≤ loadL l d := load_mono fun b hb hon => by
      obtain ⟨k1, k2, k3⟩ := on_iff.1 hon
      exact on_iff.2 ⟨k1, by omega, hend b hb (by omega)⟩
    have := h3 d (Int.le_refl _) (by omega)
    omega
theorem find_sorted {p : Int → Bool} : ∀ {S : List Int}, S.Pairwise (· ≤ ·) → ∀ {c : Int}, c ∈ S → p c = true → ∃ d, S.find? p = some d ∧ d ≤ c ∧ p d = true
  | x :: r, hs, c, hc, hp => by
    by_cases hx : p x = true
    · refine ⟨x, by rw [List.find?_cons_of_pos hx], ?_, hx⟩
      rcases List.mem_cons.1 hc with rfl | hc
      · exact Int.le_refl _
      · exact (List.pairwise_cons.1 hs).1 c hc
    · rw [List.find?_cons_of_neg hx]
      rcases List.mem_cons.1 hc with rfl | hc
      · exact (hx hp).elim
      · exact find_sorted (List.pairwise_cons.1 hs).2 hc hp
def dayR : Option Int → Int × Int
  | some d => (d, 0)
  | none => (0, 12)
/-- The free day, the candidates in order. -/
def freeL (s : Int) (l : List Bk) (S : List Int) (r a days : Int) : Int × Int :=
  if checkL s l ≠ 0 then (0, 1) else if (!okId r || decide (a < 0) || decide (1048575 < a) || decide (days < 1) || decide (1024 < days)) = true then (0, 2)
  else dayR (S.find? (fitD s l r days))
theorem try_iff {s : Int} {l : List Bk} {r days d : Int} (hR : Right s l) (hl : l.length ≤ 40) (hr : okId r = true) (hlast : ¬ (0 < l.length ∧ 1073741824 ≤ (lastB l).ID)) : (admitL s l ⟨1073741824, r, d, d + days⟩).2 = 0 ↔ fitD s l r days d = true := by
  unfold admitL
  rw [if_neg (by rw [right_iff.2 hR]; decide), if_neg (by omega)]
  by_cases h : faultP s l ⟨1073741824, r, d, d + days⟩ ≠ 0
  · rw [if_pos h]
    refine ⟨fun h2 => (h h2).elim, fun hf => ?_⟩
    obtain ⟨h1, h2, h3⟩ := fitD_iff.1 hf
    exact faultP_zero.2 ⟨show okId 1073741824 = true by decide, hr, h1, fun h0 => by simp only at *; omega, fun x hx e hm => h2 x hx e hm, h3⟩
  · rw [if_neg h]
    refine ⟨fun _ => ?_, fun _ => rfl⟩
    have hf := faultP_zero.1 (Classical.not_not.1 h)
    exact fitD_iff.2 ⟨hf.span, hf.busy, hf.full⟩
end Go.Sx.T
