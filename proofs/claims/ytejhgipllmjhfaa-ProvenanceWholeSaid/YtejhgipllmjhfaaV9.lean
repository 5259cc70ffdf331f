/- Contracts of functions of the program, each proved by running its code symbolically (V9). -/
import Derived.Test.YtejhgipllmjhfaaVZ
import Derived.Test.YtejhgipllmjhfaaVS
namespace Go.Sx.T
open Go Go.Proofs Go.Sx
set_option maxRecDepth 100000
set_option maxHeartbeats 4000000
set_option linter.unusedVariables false
set_option linter.unusedSimpArgs false
def numsC (l : List Came) (a : Int) : List Int := (sortN (ownL l a)).map Came.Num
theorem nums_rise {l : List Came} (hR : RightC l) {a : Int} (h0 : a ≠ 0) : (numsC l a).Pairwise (· < ·) := by
  unfold numsC
  rw [List.pairwise_map]
  exact sort_strict (own_ne hR h0)
theorem nums_fold {l : List Came} (hR : RightC l) {a : Int} (h0 : a ≠ 0) : foldU (ownN l a) = numsC l a := by
  obtain ⟨h1, h2⟩ := foldU_spec (ownN l a)
  refine rise_eq h1 (nums_rise hR h0) fun x => ?_
  rw [h2]
  unfold numsC ownN
  rw [List.mem_map, List.mem_map]
  exact ⟨fun ⟨c, hc, e⟩ => ⟨c, (sortN_perm _).mem_iff.2 hc, e⟩, fun ⟨c, hc, e⟩ => ⟨c, (sortN_perm _).mem_iff.1 hc, e⟩⟩
theorem nums_in {l : List Came} (hR : RightC l) {a : Int} (h0 : a ≠ 0) : ∀ x ∈ numsC l a, inI x 1 9999 = true := by
  intro x hx
  unfold numsC at hx
  obtain ⟨c, hc, rfl⟩ := List.mem_map.1 hx
  have h1 := (sortN_perm _).mem_iff.1 hc
  unfold ownL at h1
  rw [List.mem_filter] at h1
  have h2 : c.Acc = a := by simpa using h1.2
  have h3 := hR.alone c h1.1
  simp only [aloneC, placedC, inI, Bool.and_eq_true, Bool.or_eq_true, decide_eq_true_eq] at h3 ⊢
  omega
theorem okN_rise {ns : List Int} (h : ns.Pairwise (· < ·)) (hi : ∀ x ∈ ns, inI x 1 9999 = true) : okN ns = true := by
  refine okN_of fun k hk => ?_
  unfold badN
  rw [hi _ (getD_mem ns 0 k hk), Bool.not_true, Bool.false_or, Bool.and_eq_false_iff]
  rcases Nat.eq_zero_or_pos k with e | e
  · left; subst e; simp
  · right
    rw [decide_eq_false_iff_not, getD_of_lt ns k hk, getD_of_lt ns (k - 1) (by omega)]
    have := List.pairwise_iff_getElem.1 h (k - 1) k (by omega) hk (by omega)
    omega
theorem complete_eq {l : List Came} (hR : RightC l) {a : Int} (hia : inI a 1 1073741824 = true) {ns : List Int} (h : ns.Pairwise (· < ·)) (hi : ∀ x ∈ ns, inI x 1 9999 = true) :
    completeC l a ns = (ns.filter (fun n => !(numsC l a).contains n), (numsC l a).filter (fun n => !ns.contains n), 0) := by
  have h0 : a ≠ 0 := by simp only [inI, Bool.and_eq_true, decide_eq_true_eq] at hia; omega
  rw [completeC, if_neg (by simp [(right_iff l).2 hR]), if_neg (by rw [hia]; decide), if_neg (by rw [okN_rise h hi]; decide), miss_kF, rest_kF, nums_fold hR h0, missK, missK, List.take_length, List.take_length]
theorem filter_self (ns : List Int) : ns.filter (fun n => !ns.contains n) = [] := by
  rw [List.filter_eq_nil_iff]
  intro x hx
  simp [hx]
theorem comp_whole {l : List Came} (hR : RightC l) {a : Int} (hia : inI a 1 1073741824 = true) : completeC l a (numsC l a) = ([], [], 0) := by
  have h0 : a ≠ 0 := by simp only [inI, Bool.and_eq_true, decide_eq_true_eq] at hia; omega
  rw [complete_eq hR hia (nums_rise hR h0) (nums_in hR h0), filter_self]
theorem comp_less {l : List Came} (hR : RightC l) {a : Int} (hia : inI a 1 1073741824 = true) (i : Nat) (hi : i < (numsC l a).length) : completeC l a ((numsC l a).eraseIdx i) = ([], [(numsC l a).getD i 0], 0) := by
  have h0 : a ≠ 0 := by simp only [inI, Bool.and_eq_true, decide_eq_true_eq] at hia; omega
  have hr := nums_rise hR h0
  have hn := nums_in hR h0
  generalize hN : numsC l a = N at *
  have hs := List.eraseIdx_sublist N i
  have h1 := complete_eq hR hia (hr.sublist hs) (fun x hx => hn x (hs.subset hx))
  rw [hN] at h1
  rw [h1]
  have e1 : (N.eraseIdx i).filter (fun n => !N.contains n) = [] := by
    rw [List.filter_eq_nil_iff]
    intro x hx
    simp [hs.subset hx]
  have e2 : N.filter (fun n => !(N.eraseIdx i).contains n) = [N.getD i 0] := by
    refine rise_eq (hr.sublist List.filter_sublist) (by simp) fun x => ?_
    have hnd : N.Nodup := hr.imp (fun h => by omega)
    rw [List.mem_filter, List.mem_singleton, Bool.not_eq_true', ← Bool.not_eq_true, List.contains_iff_mem, getD_of_lt N i hi]
    have h3 : N.eraseIdx i = N.filter fun k => !decide (k = N[i]) := (delKey_idx i hnd (List.getElem?_eq_getElem hi)).symm
    rw [h3, List.mem_filter]
    constructor
    · rintro ⟨hx, h4⟩
      exact Classical.byContradiction fun e => h4 ⟨hx, by simp [e]⟩
    · rintro rfl
      exact ⟨List.getElem_mem hi, fun h => by simp at h⟩
  rw [e1, e2]
theorem comp_more {l : List Came} (hR : RightC l) {a : Int} (hia : inI a 1 1073741824 = true) (k : Int) (hk : inI k 1 9999 = true) (hnk : (decide ((atI (numsC l a) k : Int) < (numsC l a).length) && decide ((numsC l a).getD (atI (numsC l a) k) 0 = k)) = false) :
    completeC l a ((numsC l a).insertIdx (atI (numsC l a) k) k) = ([k], [], 0) := by
  have h0 : a ≠ 0 := by simp only [inI, Bool.and_eq_true, decide_eq_true_eq] at hia; omega
  have hr := nums_rise hR h0
  have hn := nums_in hR h0
  generalize hN : numsC l a = N at *
  have hI : insU N k = N.insertIdx (atI N k) k := if_neg (by rw [hnk]; decide)
  rw [← hI]
  have hm : ∀ x, x ∈ insU N k ↔ x ∈ N ∨ x = k := fun x => insU_mem k x
  have hkn : k ∉ N := fun hx => by
    obtain ⟨i, hi, e⟩ := List.mem_iff_getElem.1 hx
    have h1 : ¬ i < atI N k := fun h => by have := atI_below N k i h; rw [getD_of_lt N i hi] at this; omega
    have h2 := atI_stop N k (by omega)
    simp only [Bool.and_eq_false_iff, decide_eq_false_iff_not] at hnk
    rcases Nat.lt_or_ge (atI N k) i with h | h
    · have h3 := List.pairwise_iff_getElem.1 hr (atI N k) i (by omega) hi h
      rw [getD_of_lt N _ (by omega)] at h2
      omega
    · have e2 : atI N k = i := by omega
      rw [e2, getD_of_lt N i hi] at hnk
      omega
  have h1 := complete_eq hR hia (insU_rise hr k) (fun x hx => by
    rcases (hm x).1 hx with h | h
    · exact hn x h
    · rw [h]; exact hk)
  rw [hN] at h1
  rw [h1]
  have e1 : (insU N k).filter (fun n => !N.contains n) = [k] := by
    refine rise_eq ((insU_rise hr k).sublist List.filter_sublist) (by simp) fun x => ?_
    rw [List.mem_filter, List.mem_singleton, Bool.not_eq_true', ← Bool.not_eq_true, List.contains_iff_mem, hm]
    constructor
    · rintro ⟨h | h, h2⟩
      · exact (h2 h).elim
      · exact h
    · rintro rfl
      exact ⟨.inr rfl, hkn⟩
  have e2 : N.filter (fun n => !(insU N k).contains n) = [] := by
    rw [List.filter_eq_nil_iff]
    intro x hx
    have : x ∈ insU N k := (hm x).2 (.inl hx)
    simp [this]
  rw [e1, e2]
end Go.Sx.T
