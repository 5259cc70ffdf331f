/- Contracts of functions of the program, each proved by running its code symbolically (BN). -/
import Derived.Test.YtffgpipdiinkcaaBM
namespace Go.Sx.T
open Go Go.Proofs Go.Sx
set_option maxRecDepth 100000
set_option maxHeartbeats 4000000
set_option linter.unusedVariables false
set_option linter.unusedSimpArgs false
/-! What is put can be taken. -/
theorem getD_withC (l : List Box) (i j : Nat) (cs : List Content) (hi : i < l.length) : (withC l i cs).getD j default = if j = i then { l.getD i default with Contents := cs } else l.getD j default := by
  unfold withC; rw [getD_set _ _ _ _ hi]
theorem withC_withC (l : List Box) (i : Nat) (cs ds : List Content) (hi : i < l.length) : withC (withC l i cs) i ds = withC l i ds := by
  have h := getD_withC l i i cs hi
  rw [if_pos rfl] at h
  unfold withC at h ⊢
  rw [h, List.set_set]
theorem withC_same (l : List Box) (i : Nat) (hi : i < l.length) : withC l i (l.getD i default).Contents = l := by
  unfold withC
  rw [getD_of_lt l i hi]
  exact List.set_getElem_self hi
theorem withC_asc {l : List Box} {i : Nat} {cs : List Content} (hi : i < l.length) (h : l.Pairwise (fun a b => a.ID < b.ID)) : (withC l i cs).Pairwise (fun a b => a.ID < b.ID) := by
  have hid : ∀ j, ((withC l i cs).getD j default).ID = (l.getD j default).ID := fun j => by
    rw [getD_withC _ _ _ _ hi]; split
    · rename_i e; subst e; rfl
    · rfl
  rw [← asc_pairwise] at h ⊢
  intro j hj h0
  rw [hid, hid]
  exact h j (by rwa [withC_length] at hj) h0
theorem withC_mem {l : List Box} {i : Nat} {cs : List Content} (hi : i < l.length) {p : Box → Prop} (h : ∀ b ∈ l, p b) (hc : p { l.getD i default with Contents := cs }) : ∀ b ∈ withC l i cs, p b := by
  intro b hb
  unfold withC at hb
  rcases List.mem_or_eq_of_mem_set hb with h1 | h1
  · exact h b h1
  · subst h1; exact hc
theorem units_split (l : List Box) (i : Nat) (cs : List Content) (hi : i < l.length) : units (withC l i cs) = units (l.take i) ++ (unitsC cs ++ units (l.drop (i + 1))) ∧ units l = units (l.take i) ++ (unitsC (l.getD i default).Contents ++ units (l.drop (i + 1))) := by
  constructor
  · unfold withC
    rw [List.set_eq_take_append_cons_drop, if_pos hi, units_append, units]
  · have : l = l.take i ++ (l.getD i default :: l.drop (i + 1)) := by
      rw [← drop_cons l default i hi, List.take_append_drop]
    conv => lhs; rw [this]
    rw [units_append, units]
def unitAt (l : List Box) (i j : Nat) : Int := ((l.getD i default).Contents.getD j default).Unit
theorem nodup_index {l : List Int} (h : l.Nodup) {i j : Nat} (hi : i < l.length) (hj : j < l.length) (e : l.getD i 0 = l.getD j 0) : i = j := by
  rw [getD_of_lt l i hi, getD_of_lt l j hj] at e
  have hp := List.pairwise_iff_getElem.1 h
  rcases Nat.lt_trichotomy i j with h' | h' | h'
  · exact absurd e (hp i j hi hj h')
  · exact h'
  · exact absurd e.symm (hp j i hj hi h')
theorem unit_mem {l : List Box} {i j : Nat} (hi : i < l.length) (hj : j < (l.getD i default).Contents.length) : unitAt l i j ∈ units l := by
  rw [mem_units]
  refine ⟨i, hi, List.count_pos_iff.2 ?_⟩
  exact List.mem_map.2 ⟨_, getD_mem _ default j hj, rfl⟩
theorem unit_inj : ∀ {l : List Box}, (units l).Nodup → ∀ {i j k q : Nat}, i < l.length → k < l.length → j < (l.getD i default).Contents.length → q < (l.getD k default).Contents.length → unitAt l i j = unitAt l k q → i = k ∧ j = q
  | [], _, i, _, _, _, hi, _, _, _, _ => by simp at hi
  | b :: r, h, i, j, k, q, hi, hk, hj, hq, e => by
    rw [units, List.nodup_append] at h
    obtain ⟨h1, h2, h3⟩ := h
    have mem0 : ∀ {j}, j < b.Contents.length → unitAt (b :: r) 0 j ∈ unitsC b.Contents := fun hj => List.mem_map.2 ⟨_, getD_mem _ default _ hj, rfl⟩
    cases i with
    | zero =>
      cases k with
      | zero =>
        refine ⟨rfl, nodup_index h1 (by rw [unitsC_length]; exact hj) (by rw [unitsC_length]; exact hq) ?_⟩
        rw [unitsC_getD b.Contents j hj, unitsC_getD b.Contents q hq]; exact e
      | succ k =>
        have m1 := mem0 hj
        have hq' : q < (r.getD k default).Contents.length := by rwa [getD_cons_succ] at hq
        have m2 := unit_mem (l := r) (by simpa using hk) hq'
        have e2 : unitAt (b :: r) (k + 1) q = unitAt r k q := by unfold unitAt; rw [getD_cons_succ]
        rw [← e2, ← e] at m2
        exact absurd rfl (h3 _ m1 _ m2)
    | succ i =>
      have hj' : j < (r.getD i default).Contents.length := by rwa [getD_cons_succ] at hj
      have e1 : unitAt (b :: r) (i + 1) j = unitAt r i j := by unfold unitAt; rw [getD_cons_succ]
      cases k with
      | zero =>
        have m1 := mem0 hq
        have m2 := unit_mem (l := r) (by simpa using hi) hj'
        rw [← e1, e] at m2
        exact absurd rfl (h3 _ m1 _ m2)
      | succ k =>
        have hq' : q < (r.getD k default).Contents.length := by rwa [getD_cons_succ] at hq
        have e2 : unitAt (b :: r) (k + 1) q = unitAt r k q := by unfold unitAt; rw [getD_cons_succ]
        rw [e1, e2] at e
        obtain ⟨h4, h5⟩ := unit_inj h2 (by simpa using hi) (by simpa using hk) hj' hq' e
        exact ⟨by rw [h4], h5⟩
theorem findI_unit {cs : List Content} {u : Int} {j : Nat} (h : findI cs (uq u) = j) : j < cs.length ∧ (cs.getD j default).Unit = u := by
  rcases findI_cases cs (uq u) with ⟨e, _⟩ | ⟨k, hk, e, _, _, h1, _⟩
  · omega
  · have : k = j := by omega
    subst this
    exact ⟨hk, by simpa [uq] using h1⟩
theorem where_neg {l : List Box} {u : Int} : (whereP u 0 l).1 < 0 ↔ u ∉ units l := by
  rcases whereP_cases u l 0 with ⟨e, h⟩ | ⟨k, hk, e, h2, _⟩
  · rw [e]
    refine ⟨fun _ hm => ?_, fun _ => by simp⟩
    obtain ⟨i, hi, hc⟩ := (mem_units u l).1 hm
    obtain ⟨c, hc', hu⟩ := List.mem_map.1 (List.count_pos_iff.1 hc)
    rcases findI_cases (l.getD i default).Contents (uq u) with ⟨_, _, _, h3⟩ | ⟨q, _, h3, _⟩
    · rw [List.any_eq_false] at h3
      exact h3 c hc' (by simpa [uq] using hu)
    · have := h i hi; omega
  · rw [e]
    refine ⟨fun h => by simp at h; omega, fun hm => ?_⟩
    exfalso
    obtain ⟨q, hq⟩ : ∃ q : Nat, findI (l.getD k default).Contents (uq u) = q := ⟨(findI (l.getD k default).Contents (uq u)).toNat, by omega⟩
    obtain ⟨h3, h4⟩ := findI_unit hq
    have := unit_mem (l := l) hk h3
    rw [unitAt, h4] at this
    exact hm this
theorem where_at {l : List Box} (h : (units l).Nodup) {i j : Nat} (hi : i < l.length) (hj : j < (l.getD i default).Contents.length) : whereP (unitAt l i j) 0 l = ((i : Int), (j : Int)) := by
  rcases whereP_cases (unitAt l i j) l 0 with ⟨e, h'⟩ | ⟨k, hk, e, h2, _⟩
  · exfalso
    have := (where_neg (l := l) (u := unitAt l i j)).1 (by rw [e]; simp)
    exact this (unit_mem hi hj)
  · obtain ⟨q, hq⟩ : ∃ q : Nat, findI (l.getD k default).Contents (uq (unitAt l i j)) = q := ⟨(findI (l.getD k default).Contents (uq (unitAt l i j))).toNat, by omega⟩
    obtain ⟨h3, h4⟩ := findI_unit hq
    obtain ⟨h5, h6⟩ := unit_inj h hi hk hj h3 h4.symm
    subst h5 h6
    rw [e, hq, Nat.zero_add]
theorem where_some {l : List Box} {u : Int} (h : ¬ (whereP u 0 l).1 < 0) : ∃ i j : Nat, i < l.length ∧ j < (l.getD i default).Contents.length ∧ unitAt l i j = u ∧ whereP u 0 l = ((i : Int), (j : Int)) := by
  rcases whereP_cases u l 0 with ⟨e, _⟩ | ⟨k, hk, e, h2, _⟩
  · rw [e] at h; simp at h
  · obtain ⟨q, hq⟩ : ∃ q : Nat, findI (l.getD k default).Contents (uq u) = q := ⟨(findI (l.getD k default).Contents (uq u)).toNat, by omega⟩
    obtain ⟨h3, h4⟩ := findI_unit hq
    exact ⟨k, q, hk, h3, h4, by rw [e, hq, Nat.zero_add]⟩
theorem formB_with {b : Box} {cs : List Content} : formB { b with Contents := cs } = true ↔ hdrOK b = true ∧ ∀ c ∈ cs, okC c = true := by
  have : hdrOK { b with Contents := cs } = hdrOK b := rfl
  simp only [formB, this, Bool.and_eq_true, Bool.not_eq_true', List.any_eq_false, Bool.not_eq_true]
  simp
theorem sumT_ins : ∀ (cs : List Content) (k : Nat) (c : Content), k ≤ cs.length → sumT (cs.insertIdx k c) = sumT cs + c.Thick
  | cs, 0, c, _ => by simp [sumT]; omega
  | [], k + 1, c, h => by simp at h
  | d :: cs, k + 1, c, h => by
    rw [List.insertIdx_succ_cons, sumT, sumT, sumT_ins cs k c (by simpa using h)]; omega
theorem sumT_del : ∀ (cs : List Content) (k : Nat), k < cs.length → sumT (cs.eraseIdx k) = sumT cs - (cs.getD k default).Thick
  | [], k, h => by simp at h
  | d :: cs, 0, _ => by simp [sumT]; omega
  | d :: cs, k + 1, h => by
    rw [List.eraseIdx_cons_succ, sumT, sumT, sumT_del cs k (by simpa using h), getD_cons_succ]; omega
theorem ins_perm (cs : List Content) (k : Nat) (c : Content) (h : k ≤ cs.length) : (cs.insertIdx k c).Perm (c :: cs) := List.perm_insertIdx c cs h
theorem right_put {l : List Box} (h : Right l) {i : Nat} (hi : i < l.length) {k : Nat} {c : Content} (hk : k ≤ (l.getD i default).Contents.length) (hc : okC c = true) (hu : c.Unit ∉ units l) (hlen : (l.getD i default).Contents.length < 32)
    (hs : sumT (l.getD i default).Contents + c.Thick ≤ (l.getD i default).Room) : Right (withC l i ((l.getD i default).Contents.insertIdx k c)) := by
  obtain ⟨f1, f2, f3⟩ := fault_zero.1 (h.fault _ (getD_mem l default i hi))
  have hok := formB_conts f1
  have hh : hdrOK (l.getD i default) = true := by
    simp only [formB, Bool.and_eq_true] at f1; exact f1.1
  refine ⟨by rw [withC_length]; exact h.len, withC_mem hi h.fault (fault_zero.2 ⟨formB_with.2 ⟨hh, fun d hd => ?_⟩, ?_, ?_⟩), withC_asc hi h.asc, ?_⟩
  · rcases List.mem_cons.1 ((ins_perm _ k c hk).mem_iff.1 hd) with rfl | hd
    · exact hc
    · exact hok d hd
  · show (List.insertIdx _ k c).length ≤ 32
    rw [length_ins _ _ _ hk]; omega
  · show sumT (List.insertIdx _ k c) ≤ _
    rw [sumT_ins _ _ _ hk]; exact hs
  · obtain ⟨e1, e2⟩ := units_split l i ((l.getD i default).Contents.insertIdx k c) hi
    have hp : (units (withC l i ((l.getD i default).Contents.insertIdx k c))).Perm (c.Unit :: units l) := by
      rw [e1, e2]
      have h1 : (unitsC ((l.getD i default).Contents.insertIdx k c)).Perm (c.Unit :: unitsC (l.getD i default).Contents) := (ins_perm _ k c hk).map _
      exact (List.Perm.append_left _ (List.Perm.append_right _ h1)).trans (by
        rw [List.cons_append]
        exact List.perm_middle)
    rw [hp.nodup_iff, List.nodup_cons]
    exact ⟨hu, h.nodup⟩
theorem erase_perm : ∀ (cs : List Content) (k : Nat), k < cs.length → cs.Perm (cs.getD k default :: cs.eraseIdx k)
  | [], k, h => by simp at h
  | d :: cs, 0, _ => by simp
  | d :: cs, k + 1, h => by
    rw [getD_cons_succ, List.eraseIdx_cons_succ]
    exact ((erase_perm cs k (by simpa using h)).cons d).trans (List.Perm.swap _ _ _)
theorem right_take {l : List Box} (h : Right l) {i j : Nat} (hi : i < l.length) (hj : j < (l.getD i default).Contents.length) : Right (withC l i ((l.getD i default).Contents.eraseIdx j)) ∧ unitAt l i j ∉ units (withC l i ((l.getD i default).Contents.eraseIdx j)) := by
  obtain ⟨f1, f2, f3⟩ := fault_zero.1 (h.fault _ (getD_mem l default i hi))
  have hok := formB_conts f1
  have hh : hdrOK (l.getD i default) = true := by
    simp only [formB, Bool.and_eq_true] at f1; exact f1.1
  have hth := okC_thick (hok _ (getD_mem _ default j hj))
  obtain ⟨e1, e2⟩ := units_split l i ((l.getD i default).Contents.eraseIdx j) hi
  have hp : (units l).Perm (unitAt l i j :: units (withC l i ((l.getD i default).Contents.eraseIdx j))) := by
    rw [e1, e2]
    have h1 : (unitsC (l.getD i default).Contents).Perm (unitAt l i j :: unitsC ((l.getD i default).Contents.eraseIdx j)) := by
      have : (l.getD i default).Contents.Perm ((l.getD i default).Contents.getD j default :: (l.getD i default).Contents.eraseIdx j) := by
        exact erase_perm _ j hj
      exact this.map _
    exact (List.Perm.append_left _ (List.Perm.append_right _ h1)).trans (by
      rw [List.cons_append]
      exact List.perm_middle)
  have hnd := hp.nodup_iff.1 h.nodup
  rw [List.nodup_cons] at hnd
  refine ⟨⟨by rw [withC_length]; exact h.len, withC_mem hi h.fault (fault_zero.2 ⟨formB_with.2 ⟨hh, fun d hd => hok d (List.mem_of_mem_eraseIdx hd)⟩, ?_, ?_⟩), withC_asc hi h.asc, hnd.2⟩, hnd.1⟩
  · show (List.eraseIdx _ j).length ≤ 32
    rw [List.length_eraseIdx, if_pos hj]; omega
  · show sumT (List.eraseIdx _ j) ≤ _
    rw [sumT_del _ _ hj]
    show sumT (l.getD i default).Contents - _ ≤ (l.getD i default).Room
    omega
theorem ins_del : ∀ (cs : List Content) (k : Nat), k < cs.length → (cs.eraseIdx k).insertIdx k (cs.getD k default) = cs
  | [], k, h => by simp at h
  | d :: cs, 0, _ => by simp
  | d :: cs, k + 1, h => by
    rw [getD_cons_succ, List.eraseIdx_cons_succ, List.insertIdx_succ_cons, ins_del cs k (by simpa using h)]
theorem putB_ok {l : List Box} {id at' : Int} {c : Content} (h : (putB l id at' c).2 = 0) : Right l ∧ ∃ i : Nat, i < l.length ∧ (l.getD i default).ID = id ∧ 0 ≤ at' ∧ at' ≤ (l.getD i default).Contents.length ∧ okC c = true ∧ c.Unit ∉ units l ∧ (l.getD i default).Contents.length < 32 ∧
    sumT (l.getD i default).Contents + c.Thick ≤ (l.getD i default).Room ∧ putB l id at' c = (withC l i ((l.getD i default).Contents.insertIdx at'.toNat c), 0) := by
  unfold putB at h ⊢
  split at h
  · cases h
  · rename_i h1
    have h1' : check l = 0 := by simpa using h1
    split at h
    · cases h
    · rename_i h2
      rcases findI_cases l (fun b => decide (b.ID = id)) with ⟨e, _⟩ | ⟨i, hi, e, _, _, hid, _⟩
      · omega
      simp only [e, Int.toNat_natCast] at h ⊢
      split at h
      · cases h
      · rename_i h3
        split at h
        · cases h
        · rename_i h4
          split at h
          · cases h
          · rename_i h5
            split at h
            · cases h
            · rename_i h6
              have h3' : (!inB at' 0 (l.getD i default).Contents.length || !okC c) = false := by simpa using h3
              rw [Bool.or_eq_false_iff, Bool.not_eq_false', Bool.not_eq_false'] at h3'
              have hat : 0 ≤ at' ∧ at' ≤ (l.getD i default).Contents.length := by simpa [inB] using h3'.1
              refine ⟨check_iff.1 h1', i, hi, by simpa using hid, hat.1, hat.2, h3'.2, where_neg.1 (by omega), by omega, by omega, ?_⟩
              rw [if_neg h1, if_neg (by omega), if_neg h3, if_neg h4, if_neg h5, if_neg h6]
theorem put_undone {l : List Box} {id at' : Int} {c : Content} (h : (putB l id at' c).2 = 0) : check (putB l id at' c).1 = 0 ∧ whereB (putB l id at' c).1 c.Unit = (id, at', true) ∧ takeB (putB l id at' c).1 c.Unit = (l, c, 0) := by
  obtain ⟨hr, i, hi, hid, ha0, ha, hc, hu, hlen, hs, e⟩ := putB_ok h
  have hk : at'.toNat ≤ (l.getD i default).Contents.length := by omega
  have hR := right_put hr hi hk hc hu hlen hs
  rw [e]
  have hck := check_iff.2 hR
  have hi' : i < (withC l i ((l.getD i default).Contents.insertIdx at'.toNat c)).length := by rw [withC_length]; exact hi
  have hgi : ((withC l i ((l.getD i default).Contents.insertIdx at'.toNat c)).getD i default) = { l.getD i default with Contents := (l.getD i default).Contents.insertIdx at'.toNat c } := by
    rw [getD_withC _ _ _ _ hi, if_pos rfl]
  have hcs : ((withC l i ((l.getD i default).Contents.insertIdx at'.toNat c)).getD i default).Contents = (l.getD i default).Contents.insertIdx at'.toNat c := by rw [hgi]
  have hj' : at'.toNat < ((withC l i ((l.getD i default).Contents.insertIdx at'.toNat c)).getD i default).Contents.length := by
    rw [hcs, length_ins _ _ _ hk]; omega
  have hce : ((withC l i ((l.getD i default).Contents.insertIdx at'.toNat c)).getD i default).Contents.getD at'.toNat default = c := by
    rw [hcs, getD_insertIdx _ _ _ _ hk, if_neg (Nat.lt_irrefl _), if_pos rfl]
  have hua : unitAt (withC l i ((l.getD i default).Contents.insertIdx at'.toNat c)) i at'.toNat = c.Unit := by
    unfold unitAt; rw [hce]
  have hw := where_at hR.nodup hi' hj'
  rw [hua] at hw
  refine ⟨hck, ?_, ?_⟩
  · simp only [whereB, hw]
    rw [if_neg (by rw [hck]; simp)]
    simp only [Int.toNat_natCast]
    rw [hgi]
    show ((l.getD i default).ID, _, _) = _
    rw [hid, Int.toNat_of_nonneg ha0]
  · simp only [takeB, hw]
    rw [if_neg (fun h => h hck), if_neg (by simp)]
    simp only [Int.toNat_natCast]
    rw [hce, hcs, withC_withC _ _ _ _ hi]
    have : ((l.getD i default).Contents.insertIdx at'.toNat c).eraseIdx at'.toNat = (l.getD i default).Contents := List.eraseIdx_insertIdx_self ..
    rw [this, withC_same _ _ hi]
theorem take_undone {l : List Box} {u : Int} (h : (takeB l u).2.2 = 0) : (whereB l u).2.2 = true ∧ putB (takeB l u).1 (whereB l u).1 (whereB l u).2.1 (takeB l u).2.1 = (l, 0) := by
  unfold takeB at h
  split at h
  · cases h
  · rename_i h1
    have hck : check l = 0 := by simpa using h1
    have hr := check_iff.1 hck
    split at h
    · cases h
    · rename_i h2
      obtain ⟨i, j, hi, hj, hu, e⟩ := where_some h2
      have hB : whereB l u = ((l.getD i default).ID, (j : Int), true) := by
        simp only [whereB, e]
        rw [if_neg (by rw [hck]; simp)]
        simp
      have hT : takeB l u = (withC l i ((l.getD i default).Contents.eraseIdx j), (l.getD i default).Contents.getD j default, 0) := by
        simp only [takeB, e]
        rw [if_neg h1, if_neg (by simp)]
        simp
      obtain ⟨hR, hnu⟩ := right_take hr hi hj
      rw [hB, hT]
      refine ⟨rfl, ?_⟩
      have hck2 := check_iff.2 hR
      have hi' : i < (withC l i ((l.getD i default).Contents.eraseIdx j)).length := by rw [withC_length]; exact hi
      have hgi : ((withC l i ((l.getD i default).Contents.eraseIdx j)).getD i default) = { l.getD i default with Contents := (l.getD i default).Contents.eraseIdx j } := by
        rw [getD_withC _ _ _ _ hi, if_pos rfl]
      have hfi := asc_findI hR.asc i hi'
      have hID : ((withC l i ((l.getD i default).Contents.eraseIdx j)).getD i default).ID = (l.getD i default).ID := by rw [hgi]
      rw [hID] at hfi
      obtain ⟨f1, f2, f3⟩ := fault_zero.1 (hr.fault _ (getD_mem l default i hi))
      have hok := formB_conts f1 _ (getD_mem _ default j hj)
      have hlen : ((l.getD i default).Contents.eraseIdx j).length = (l.getD i default).Contents.length - 1 := by rw [List.length_eraseIdx, if_pos hj]
      simp only [putB, hfi]
      rw [if_neg (fun h => h hck2), if_neg (by omega)]
      simp only [Int.toNat_natCast]
      rw [hgi]
      have hin : inB (j : Int) 0 (((l.getD i default).Contents.eraseIdx j).length : Int) = true := by
        simp only [inB, Bool.and_eq_true, decide_eq_true_eq]; omega
      have hnw := where_neg.2 hnu
      unfold unitAt at hnw
      simp only [hin, hok]
      rw [if_neg (by decide), if_neg (by omega), if_neg (by omega), if_neg (by rw [sumT_del _ _ hj]; omega)]
      rw [withC_withC _ _ _ _ hi]
      have : ((l.getD i default).Contents.eraseIdx j).insertIdx j ((l.getD i default).Contents.getD j default) = (l.getD i default).Contents := ins_del _ j hj
      rw [this, withC_same _ _ hi]
theorem take_err {l : List Box} {u : Int} (h : (takeB l u).2.2 ≠ 0) : (whereB l u).2.2 = false := by
  unfold takeB at h
  split at h
  · rename_i h1
    rw [whereB, if_pos (.inr h1)]
  · split at h
    · rename_i h2
      rw [whereB, if_pos (.inl h2)]
    · exact (h rfl).elim
end Go.Sx.T
