/- Contracts of functions of the program, each proved by running its code symbolically (VM). -/
import Derived.Test.YtejhgipllmjhfaaVL
namespace Go.Sx.T
open Go Go.Proofs Go.Sx
set_option maxRecDepth 100000
set_option maxHeartbeats 4000000
set_option linter.unusedVariables false
set_option linter.unusedSimpArgs false
def kF (xs : List Int) : List Int := xs.foldl putKey []
theorem kF_snoc (xs : List Int) (x : Int) : kF (xs ++ [x]) = putKey (kF xs) x := by simp [kF]
theorem kF_spec (xs : List Int) : (kF xs).Nodup ∧ (∀ x, x ∈ kF xs ↔ x ∈ xs) ∧ (kF xs).length ≤ xs.length := by
  refine rev_ind (P := fun xs => (kF xs).Nodup ∧ (∀ x, x ∈ kF xs ↔ x ∈ xs) ∧ (kF xs).length ≤ xs.length) (by simp [kF]) (fun xs x h => ?_) xs
  rw [kF_snoc, putKey, List.length_append, List.length_singleton]
  by_cases hm : x ∈ kF xs
  · rw [if_pos hm]
    refine ⟨h.1, fun y => ?_, by omega⟩
    rw [h.2.1, List.mem_append, List.mem_singleton]
    exact ⟨.inl, fun hy => hy.elim id fun e => e ▸ (h.2.1 x).1 hm⟩
  · rw [if_neg hm]
    refine ⟨?_, fun y => ?_, by rw [List.length_append, List.length_singleton]; omega⟩
    · rw [List.nodup_append]
      exact ⟨h.1, by simp, fun a ha c hc e => by simp at hc; subst hc e; exact hm ha⟩
    · rw [List.mem_append, List.mem_append, h.2.1]
def ownP (l : List Came) (a : Int) (k : Nat) : List Int := ((l.take k).filter fun c => decide (c.Acc = a)).map Came.Num
def ownN (l : List Came) (a : Int) : List Int := (l.filter fun c => decide (c.Acc = a)).map Came.Num
theorem ownP_succ (l : List Came) (a : Int) (k : Nat) (h : k < l.length) : ownP l a (k + 1) = if decide ((l.getD k default).Acc = a) = true then ownP l a k ++ [(l.getD k default).Num] else ownP l a k := by
  unfold ownP
  rw [List.take_succ_eq_append_getElem h, List.filter_append, List.map_append, getD_of_lt l k h]
  by_cases e : decide ((l[k]).Acc = a) = true
  · rw [if_pos e, List.filter_cons_of_pos (p := fun c : Came => decide (c.Acc = a)) e]; rfl
  · rw [if_neg e, List.filter_cons_of_neg (p := fun c : Came => decide (c.Acc = a)) e]; simp
theorem ownP_end (l : List Came) (a : Int) : ownP l a l.length = ownN l a := by rw [ownP, List.take_length]; rfl
theorem ownP_le (l : List Came) (a : Int) (k : Nat) (h : k ≤ l.length) : (ownP l a k).length ≤ k := by
  unfold ownP
  rw [List.length_map]
  have := List.length_filter_le (fun c : Came => decide (c.Acc = a)) (l.take k)
  rw [List.length_take] at this
  omega
def hasM (ks : List Int) (k : Int) : SV := .bool (decide (k ∈ ks))
theorem hasM_put (ks : List Int) (n : Int) : ∀ k, putGet n (.bool true) (hasM ks) k = hasM (putKey ks n) k := by
  intro k
  unfold putGet hasM putKey
  by_cases e : k = n
  · rw [if_pos e, e]
    split
    · rename_i h; simp [h]
    · simp
  · rw [if_neg e]
    split
    · rfl
    · simp [e]
theorem hasM_del (ks : List Int) (n : Int) : ∀ k, delGet (.bool false) n (hasM ks) k = hasM (delKey ks n) k := by
  intro k
  unfold delGet hasM delKey
  by_cases e : k = n
  · rw [if_pos e, e]; simp [valSV]
  · rw [if_neg e]; simp [e]
def badN (ns : List Int) (k : Nat) : Bool := !inI (ns.getD k 0) 1 9999 || (decide (0 < (k : Int)) && decide (ns.getD k 0 ≤ ns.getD (k - 1) 0))
def okN (ns : List Int) : Bool := (List.range ns.length).all fun k => !badN ns k
theorem okN_not {ns : List Int} {k : Nat} (hk : k < ns.length) (h : badN ns k = true) : okN ns = false := by
  rw [okN, Bool.eq_false_iff]
  intro ha
  have := List.all_eq_true.1 ha k (List.mem_range.2 hk)
  rw [h] at this
  cases this
theorem okN_of {ns : List Int} (h : ∀ k, k < ns.length → badN ns k = false) : okN ns = true := List.all_eq_true.2 fun k hk => by rw [h k (List.mem_range.1 hk)]; rfl
theorem badN_rise {ns : List Int} (h : ∀ k, k < ns.length → badN ns k = false) : ns.Pairwise (· < ·) := by
  have h3 : ∀ j, 0 < j → j < ns.length → ns.getD (j - 1) 0 < ns.getD j 0 := fun j h0 hj => by
    have h := h j hj
    simp only [badN, Bool.or_eq_false_iff, Bool.and_eq_false_iff, decide_eq_false_iff_not] at h
    omega
  rw [List.pairwise_iff_getElem]
  have key : ∀ n i, i + n + 1 < ns.length → ns.getD i 0 < ns.getD (i + n + 1) 0 := by
    intro n
    induction n with
    | zero => intro i hi; have := h3 (i + 1) (by omega) hi; simpa using this
    | succ n ih =>
      intro i hi
      have h4 := ih i (by omega)
      have h5 := h3 (i + (n + 1) + 1) (by omega) hi
      rw [show i + (n + 1) + 1 - 1 = i + n + 1 by omega] at h5
      omega
  intro i j hi hj hij
  have := key (j - i - 1) i (by omega)
  rwa [show i + (j - i - 1) + 1 = j by omega, getD_of_lt ns i hi, getD_of_lt ns j hj] at this
/-- What remains of a map's keys. -/
def restK (ks ns : List Int) (j : Nat) : List Int := ks.filter fun k => !(ns.take j).contains k
def missK (ks ns : List Int) (j : Nat) : List Int := (ns.take j).filter fun n => !ks.contains n
theorem restK_succ (ks ns : List Int) (j : Nat) (h : j < ns.length) : restK ks ns (j + 1) = delKey (restK ks ns j) (ns.getD j 0) := by
  unfold restK delKey
  rw [List.filter_filter, List.take_succ_eq_append_getElem h, getD_of_lt ns j h]
  congr 1
  funext k
  simp only [List.contains_append, List.contains_cons, List.contains_nil, Bool.or_false, Bool.not_or]
  rw [Bool.and_comm]
  rfl
theorem missK_succ (ks ns : List Int) (j : Nat) (h : j < ns.length) : missK ks ns (j + 1) = if ks.contains (ns.getD j 0) = true then missK ks ns j else missK ks ns j ++ [ns.getD j 0] := by
  unfold missK
  rw [List.take_succ_eq_append_getElem h, List.filter_append, getD_of_lt ns j h]
  by_cases e : ks.contains ns[j] = true
  · rw [if_pos e, List.filter_cons_of_neg (by rw [e]; decide)]; simp
  · rw [if_neg e, List.filter_cons_of_pos (by rw [Bool.not_eq_true] at e; rw [e]; rfl)]; rfl
theorem missK_le (ks ns : List Int) (j : Nat) (h : j ≤ ns.length) : (missK ks ns j).length ≤ j := by
  have := List.length_filter_le (fun n => !ks.contains n) (ns.take j)
  rw [List.length_take] at this
  unfold missK
  omega
/-- A rising list: the element at j is not among those ahead. -/
theorem rest_mem {ks ns : List Int} (hr : ns.Pairwise (· < ·)) (j : Nat) (h : j < ns.length) : ns.getD j 0 ∈ restK ks ns j ↔ ns.getD j 0 ∈ ks := by
  unfold restK
  rw [List.mem_filter]
  refine ⟨fun h => h.1, fun hk => ⟨hk, ?_⟩⟩
  rw [Bool.not_eq_true', ← Bool.not_eq_true, List.contains_iff_mem]
  intro hm
  obtain ⟨i, hi, e⟩ := List.mem_iff_getElem.1 hm
  rw [List.length_take] at hi
  rw [List.getElem_take, getD_of_lt ns j h] at e
  have := List.pairwise_iff_getElem.1 hr i j (by omega) h (by omega)
  omega
def completeC (l : List Came) (a : Int) (ns : List Int) : List Int × List Int × Int := if (checkC l).2 ≠ 0 then ([], [], 1) else if inI a 1 1073741824 = false then ([], [], 2) else if okN ns = false then ([], [], 5) else (missK (kF (ownN l a)) ns ns.length, isort (restK (kF (ownN l a)) ns ns.length), 0)
end Go.Sx.T
