/- Contracts of functions of the program, each proved by running its code symbolically (RC). -/
import Derived.Test.YtdiikneggikfkaaRB
/- Bookings: the seating, plainly. -/
namespace Go.Sx.T
open Go Go.Sx
set_option linter.unusedVariables false
def bk (l : List Bk) (i : Nat) : Bk := l.getD i default
/-- The order in which the bookings are seated. -/
def keyLt (l : List Bk) (i j : Nat) : Prop := (bk l i).F < (bk l j).F ∨ ((bk l i).F = (bk l j).F ∧ (bk l i).ID < (bk l j).ID)
def leB (l : List Bk) (i j : Nat) : Bool := decide ((bk l i).F < (bk l j).F) || (decide ((bk l i).F = (bk l j).F) && decide ((bk l i).ID ≤ (bk l j).ID))
def ordL (l : List Bk) : List Nat := (List.range l.length).mergeSort (leB l)
theorem ordL_perm (l : List Bk) : (ordL l).Perm (List.range l.length) := List.mergeSort_perm ..
theorem ordL_len (l : List Bk) : (ordL l).length = l.length := by rw [(ordL_perm l).length_eq, List.length_range]
theorem leB_iff {l : List Bk} {i j : Nat} : leB l i j = true ↔ (bk l i).F < (bk l j).F ∨ ((bk l i).F = (bk l j).F ∧ (bk l i).ID ≤ (bk l j).ID) := by
  unfold leB; simp only [Bool.or_eq_true, Bool.and_eq_true, decide_eq_true_eq]
theorem ordL_sorted (l : List Bk) : (ordL l).Pairwise fun i j => leB l i j = true :=
  List.pairwise_mergeSort (le := leB l) (fun a b c h1 h2 => by rw [leB_iff] at *; omega) (fun a b => by rw [Bool.or_eq_true, leB_iff, leB_iff]; omega) _
theorem ordL_nodup (l : List Bk) : (ordL l).Nodup := (ordL_perm l).nodup_iff.2 List.nodup_range
theorem ordL_lt (l : List Bk) {k : Nat} (hk : k < l.length) : (ordL l).getD k 0 < l.length := by
  have := (ordL_perm l).mem_iff.1 (getD_mem' (d := 0) (ordL l) k (by rw [ordL_len]; exact hk))
  simpa using this
theorem ordL_inj (l : List Bk) {j k : Nat} (hj : j < l.length) (hk : k < l.length) (h : (ordL l).getD j 0 = (ordL l).getD k 0) : j = k := by
  rw [getD_of_lt _ _ (by rw [ordL_len]; exact hj), getD_of_lt _ _ (by rw [ordL_len]; exact hk)] at h
  exact (List.getElem_inj (ordL_nodup l)).1 h
theorem ordL_F (l : List Bk) {j k : Nat} (hjk : j < k) (hk : k < l.length) : (bk l ((ordL l).getD j 0)).F ≤ (bk l ((ordL l).getD k 0)).F := by
  have hl := ordL_len l
  have := List.pairwise_iff_getElem.1 (ordL_sorted l) j k (by omega) (by omega) hjk
  rw [leB_iff] at this
  rw [getD_of_lt _ _ (by omega), getD_of_lt _ _ (by omega)]
  omega
theorem ordL_onto (l : List Bk) {i : Nat} (hi : i < l.length) : ∃ k, k < l.length ∧ (ordL l).getD k 0 = i := by
  have : i ∈ ordL l := (ordL_perm l).mem_iff.2 (by simpa using hi)
  obtain ⟨k, hk, e⟩ := List.mem_iff_getElem.1 this
  exact ⟨k, by rw [← ordL_len l]; exact hk, by rw [getD_of_lt _ _ hk]; exact e⟩
def meetI (l : List Bk) (i j : Nat) : Bool := meetB (bk l i).F (bk l i).U (bk l j).F (bk l j).U
theorem meetI_iff {l : List Bk} {i j : Nat} : meetI l i j = true ↔ (bk l i).F < (bk l j).U ∧ (bk l j).F < (bk l i).U := meetB_iff
/-- Is a seat taken by one of the first j in the order, with a day in common with the k-th? -/
def takenB (l : List Bk) (out : List Int) (k : Nat) : Nat → Nat → Bool
  | 0, _ => false
  | j + 1, v => takenB l out k j v || (decide (out.getD ((ordL l).getD j 0) 0 = (v : Int)) && meetI l ((ordL l).getD k 0) ((ordL l).getD j 0))
theorem takenB_iff {l : List Bk} {out : List Int} {k v : Nat} : ∀ {j : Nat}, takenB l out k j v = true ↔ ∃ q, q < j ∧ out.getD ((ordL l).getD q 0) 0 = (v : Int) ∧ meetI l ((ordL l).getD k 0) ((ordL l).getD q 0) = true
  | 0 => by simp [takenB]
  | j + 1 => by
    unfold takenB
    rw [Bool.or_eq_true, takenB_iff (j := j), Bool.and_eq_true, decide_eq_true_eq]
    constructor
    · rintro (⟨q, h1, h2, h3⟩ | ⟨h2, h3⟩)
      · exact ⟨q, by omega, h2, h3⟩
      · exact ⟨j, by omega, h2, h3⟩
    · rintro ⟨q, h1, h2, h3⟩
      by_cases e : q = j
      · subst e; exact .inr ⟨h2, h3⟩
      · exact .inl ⟨q, by omega, h2, h3⟩
def freeSeat (l : List Bk) (out : List Int) (k : Nat) : Int := findI (List.range 33) fun v => !takenB l out k k v
def outL (l : List Bk) : Nat → List Int
  | 0 => List.replicate l.length 0
  | k + 1 => (outL l k).set ((ordL l).getD k 0) (freeSeat l (outL l k) k)
def seatsL (l : List Bk) : List Int := outL l l.length
theorem outL_len (l : List Bk) : ∀ k, (outL l k).length = l.length
  | 0 => by simp [outL]
  | k + 1 => by rw [outL, List.length_set, outL_len l k]
theorem nodup_lenN : ∀ (a b : List Nat), a.Nodup → (∀ x ∈ a, x ∈ b) → a.length ≤ b.length
  | [], b, _, _ => by simp
  | x :: a, b, h, hs => by
    have hx : x ∈ b := hs x (by simp)
    have h1 := nodup_lenN a (b.erase x) (List.nodup_cons.1 h).2 fun y hy => by
      have hne : y ≠ x := fun e => (List.nodup_cons.1 h).1 (e ▸ hy)
      exact (List.mem_erase_of_ne hne).2 (hs y (by simp [hy]))
    have h2 := List.length_erase_of_mem hx
    have h3 := List.length_pos_of_mem hx
    simp only [List.length_cons]
    omega
/-- Those who are on a day, by their numbers. -/
def onI (l : List Bk) (d : Int) : List Nat := (List.range l.length).filter fun i => (bk l i).on d
theorem load_onI (l : List Bk) (d : Int) : loadL l d = (onI l d).length := by
  have e : l = (List.range l.length).map (bk l) := by
    apply List.ext_getElem (by simp)
    intro i h1 h2
    rw [List.getElem_map, List.getElem_range, bk, getD_of_lt l i h1]
  unfold loadL onI
  rw [← List.countP_eq_length_filter]
  conv => lhs; rw [e]
  rw [List.countP_map]; rfl
theorem onI_mem {l : List Bk} {d : Int} {i : Nat} : i ∈ onI l d ↔ i < l.length ∧ (bk l i).on d = true := by
  unfold onI; simp
theorem pigeon (T : List Int) (c : Nat) (h : T.length ≤ c) : ∃ v, v ≤ c ∧ ((v : Nat) : Int) ∉ T := by
  refine Classical.byContradiction fun hn => ?_
  have hall : ∀ v, v ≤ c → ((v : Nat) : Int) ∈ T := fun v hv => Classical.byContradiction fun h => hn ⟨v, hv, h⟩
  have := nodup_len' ((List.range (c + 1)).map (fun (v : Nat) => (v : Int))) T (by
    rw [List.nodup_iff_pairwise_ne, List.pairwise_map]
    exact (List.nodup_iff_pairwise_ne.1 List.nodup_range).imp fun h e => h (by omega)) (fun x hx => by
    obtain ⟨v, hv, rfl⟩ := List.mem_map.1 hx
    exact hall v (by simp at hv; omega))
  simp at this
  omega
/-- Those of the first k in the order that meet the k-th. -/
def metL (l : List Bk) (k : Nat) : List Nat := ((List.range k).filter fun q => meetI l ((ordL l).getD k 0) ((ordL l).getD q 0)).map fun q => (ordL l).getD q 0
theorem met_load {s : Int} {l : List Bk} (hR : Right s l) {k : Nat} (hk : k < l.length) : (metL l k).length + 1 ≤ loadL l (bk l ((ordL l).getD k 0)).F := by
  rw [load_onI]
  have hsp : ∀ i, i < l.length → okSpan (bk l i).F (bk l i).U = true := fun i hi => right_span hR _ (getD_mem' l i hi)
  have hnd : ((ordL l).getD k 0 :: metL l k).Nodup := by
    rw [List.nodup_cons]
    refine ⟨fun hm => ?_, ?_⟩
    · unfold metL at hm
      obtain ⟨q, hq, e⟩ := List.mem_map.1 hm
      rw [List.mem_filter, List.mem_range] at hq
      have := ordL_inj l (by omega) hk e
      omega
    · unfold metL
      rw [List.nodup_iff_pairwise_ne, List.pairwise_map]
      have h1 : ((List.range k).filter fun q => meetI l ((ordL l).getD k 0) ((ordL l).getD q 0)).Pairwise (· ≠ ·) := (List.nodup_iff_pairwise_ne.1 List.nodup_range).filter _
      refine h1.imp_of_mem fun {a b} ha hb hne e => hne ?_
      rw [List.mem_filter, List.mem_range] at ha hb
      exact ordL_inj l (by omega) (by omega) e
  have hsub : ∀ x ∈ (ordL l).getD k 0 :: metL l k, x ∈ onI l (bk l ((ordL l).getD k 0)).F := fun x hx => by
    rw [onI_mem]
    rcases List.mem_cons.1 hx with rfl | hx
    · exact ⟨ordL_lt l hk, on_iff.2 ⟨hsp _ (ordL_lt l hk), Int.le_refl _, (okSpan_iff.1 (hsp _ (ordL_lt l hk))).2.1⟩⟩
    · unfold metL at hx
      obtain ⟨q, hq, rfl⟩ := List.mem_map.1 hx
      rw [List.mem_filter, List.mem_range] at hq
      have hm := meetI_iff.1 hq.2
      exact ⟨ordL_lt l (by omega), on_iff.2 ⟨hsp _ (ordL_lt l (by omega)), ordL_F l hq.1 hk, hm.1⟩⟩
  exact nodup_lenN _ _ hnd hsub
theorem freeSeat_spec {s : Int} {l : List Bk} (hR : Right s l) (out : List Int) {k : Nat} (hk : k < l.length) : ∃ v : Nat, freeSeat l out k = v ∧ v ≤ (metL l k).length ∧ v < 32 ∧ takenB l out k k v = false := by
  have h1 := met_load hR hk
  have h2 := right_load hR (bk l ((ordL l).getD k 0)).F
  have h3 := hR.s2
  have hc : (metL l k).length < 32 := by omega
  obtain ⟨v, hv, hn⟩ := pigeon ((metL l k).map fun i => out.getD i 0) (metL l k).length (by simp)
  have hnt : takenB l out k k v = false := by
    rw [Bool.eq_false_iff]
    intro h
    obtain ⟨q, q1, q2, q3⟩ := takenB_iff.1 h
    refine hn (List.mem_map.2 ⟨(ordL l).getD q 0, ?_, q2⟩)
    unfold metL
    exact List.mem_map.2 ⟨q, List.mem_filter.2 ⟨List.mem_range.2 q1, q3⟩, rfl⟩
  rcases findI_cases (List.range 33) (fun v => !takenB l out k k v) with ⟨_, _, _, h⟩ | ⟨u, hu, h4, h5, _, h6, _⟩
  · rw [List.any_eq_false] at h
    have := h v (by simp; omega)
    rw [hnt] at this; simp at this
  · have hu' : u < 33 := by simpa using hu
    have eu : (List.range 33).getD u default = u := by rw [getD_of_lt _ _ hu, List.getElem_range]
    rw [eu] at h6
    have huv : u ≤ v := by
      rw [List.findIdx?_eq_some_iff_getElem] at h5
      refine Nat.le_of_not_lt fun hlt => ?_
      have := h5.2.2 v hlt
      rw [List.getElem_range, hnt] at this
      simp at this
    exact ⟨u, h4, by omega, by omega, by simpa using h6⟩
structure SeatI (l : List Bk) (k : Nat) (out : List Int) : Prop where
  range : ∀ j, j < k → ∃ v : Nat, out.getD ((ordL l).getD j 0) 0 = v ∧ v < 32 ∧ v + 1 ≤ loadL l (bk l ((ordL l).getD j 0)).F
  apart : ∀ j q, q < j → j < k → meetI l ((ordL l).getD j 0) ((ordL l).getD q 0) = true → out.getD ((ordL l).getD j 0) 0 ≠ out.getD ((ordL l).getD q 0) 0
theorem outL_get (l : List Bk) {k j : Nat} (hk : k < l.length) (hj : j < l.length) : (outL l (k + 1)).getD ((ordL l).getD j 0) 0 = if j = k then freeSeat l (outL l k) k else (outL l k).getD ((ordL l).getD j 0) 0 := by
  rw [outL, getD_set _ _ _ _ (by rw [outL_len]; exact ordL_lt l hk)]
  by_cases e : j = k
  · subst e; rw [if_pos rfl, if_pos rfl]
  · rw [if_neg e, if_neg fun h => e (ordL_inj l hj hk h)]
theorem outL_inv {s : Int} {l : List Bk} (hR : Right s l) : ∀ k, k ≤ l.length → SeatI l k (outL l k)
  | 0, _ => ⟨fun j hj => by omega, fun j q _ hj => by omega⟩
  | k + 1, hk => by
    have H := outL_inv hR k (by omega)
    obtain ⟨v, hv1, hv2, hv3, hv4⟩ := freeSeat_spec hR (outL l k) (show k < l.length by omega)
    have hm := met_load hR (show k < l.length by omega)
    refine ⟨fun j hj => ?_, fun j q hq hj hmeet => ?_⟩
    · rw [outL_get l (by omega) (by omega)]
      by_cases e : j = k
      · subst e; rw [if_pos rfl]; exact ⟨v, hv1, hv3, by omega⟩
      · rw [if_neg e]; exact H.range j (by omega)
    · rw [outL_get l (by omega) (by omega), outL_get l (by omega) (by omega), if_neg (show q ≠ k by omega)]
      by_cases e : j = k
      · subst e
        rw [if_pos rfl, hv1]
        intro he
        rw [takenB_iff.2 ⟨q, hq, he.symm, hmeet⟩] at hv4
        cases hv4
      · rw [if_neg e]; exact H.apart j q hq (by omega) hmeet
theorem seats_len (l : List Bk) : (seatsL l).length = l.length := outL_len l _
theorem seats_range {s : Int} {l : List Bk} (hR : Right s l) {i : Nat} (hi : i < l.length) : ∃ v : Nat, (seatsL l).getD i 0 = v ∧ v < 32 ∧ v + 1 ≤ loadL l (bk l i).F := by
  obtain ⟨k, hk, rfl⟩ := ordL_onto l hi
  exact (outL_inv hR l.length (Nat.le_refl _)).range k hk
theorem seats_apart {s : Int} {l : List Bk} (hR : Right s l) {i j : Nat} (hi : i < l.length) (hj : j < l.length) (hne : i ≠ j) (hm : meetI l i j = true) : (seatsL l).getD i 0 ≠ (seatsL l).getD j 0 := by
  obtain ⟨p, hp, rfl⟩ := ordL_onto l hi
  obtain ⟨q, hq, rfl⟩ := ordL_onto l hj
  have H := outL_inv hR l.length (Nat.le_refl _)
  rcases Nat.lt_trichotomy p q with h | h | h
  · intro e
    refine H.apart q p h hq ?_ e.symm
    rw [meetI_iff] at hm ⊢; exact ⟨hm.2, hm.1⟩
  · subst h; exact (hne rfl).elim
  · exact H.apart p q h hp hm
/-- The greatest seat and one more, as the statement finds it. -/
def mostS (l : List Int) : Int := l.foldl (fun m v => max m (v + 1)) 0
theorem mostS_snoc (l : List Int) (v : Int) : mostS (l ++ [v]) = max (mostS l) (v + 1) := by simp [mostS]
theorem mostS_spec (l : List Int) : (∀ v ∈ l, v + 1 ≤ mostS l) ∧ (mostS l = 0 ∨ ∃ v ∈ l, mostS l = v + 1) ∧ 0 ≤ mostS l := by
  induction l using rev_ind with
  | h0 => exact ⟨by simp, .inl rfl, Int.le_refl _⟩
  | h1 l v ih =>
    rw [mostS_snoc]
    obtain ⟨i1, i2, i3⟩ := ih
    refine ⟨fun x hx => ?_, ?_, by omega⟩
    · rcases List.mem_append.1 hx with hx | hx
      · have := i1 x hx; omega
      · simp at hx; subst hx; omega
    · by_cases h : mostS l ≤ v + 1
      · exact .inr ⟨v, by simp, by omega⟩
      · rcases i2 with i2 | ⟨x, hx, i2⟩
        · exact .inl (by omega)
        · exact .inr ⟨x, by simp [hx], by omega⟩
theorem most_peak {s : Int} {l : List Bk} (hR : Right s l) {d : Int} {n : Nat} (hp : IsPeak l d n) : mostS (seatsL l) = n := by
  obtain ⟨m1, m2, m3⟩ := mostS_spec (seatsL l)
  have hle : mostS (seatsL l) ≤ n := by
    rcases m2 with h | ⟨v, hv, h⟩
    · omega
    · obtain ⟨i, hi, e⟩ := List.mem_iff_getElem.1 hv
      rw [seats_len] at hi
      obtain ⟨u, h1, _, h2⟩ := seats_range hR hi
      rw [getD_of_lt _ _ (by rw [seats_len]; exact hi), e] at h1
      have := hp.most (bk l i).F
      omega
  have hge : (n : Int) ≤ mostS (seatsL l) := by
    have h1 : ((onI l d).map fun i => ((seatsL l).getD i 0)).Nodup := by
      rw [List.nodup_iff_pairwise_ne, List.pairwise_map]
      have h0 : (onI l d).Pairwise (· ≠ ·) := (List.nodup_iff_pairwise_ne.1 List.nodup_range).filter _
      refine h0.imp_of_mem fun {a b} ha hb hne => ?_
      rw [onI_mem] at ha hb
      have ka := on_iff.1 ha.2
      have kb := on_iff.1 hb.2
      exact seats_apart hR ha.1 hb.1 hne (meetI_iff.2 ⟨by omega, by omega⟩)
    have h2 := nodup_len' _ ((List.range (mostS (seatsL l)).toNat).map fun (v : Nat) => (v : Int)) h1 fun x hx => by
      obtain ⟨i, hi, rfl⟩ := List.mem_map.1 hx
      rw [onI_mem] at hi
      obtain ⟨v, h3, _, _⟩ := seats_range hR hi.1
      have h4 := m1 _ (getD_mem' (d := 0) (seatsL l) i (by rw [seats_len]; exact hi.1))
      rw [h3] at h4
      rw [h3]
      exact List.mem_map.2 ⟨v, by simp; omega, rfl⟩
    rw [List.length_map, List.length_map, List.length_range, ← load_onI, hp.load] at h2
    omega
  omega
def seatingL (s : Int) (l : List Bk) : List Int × Int := if checkL s l ≠ 0 then ([], 1) else (seatsL l, 0)
end Go.Sx.T
