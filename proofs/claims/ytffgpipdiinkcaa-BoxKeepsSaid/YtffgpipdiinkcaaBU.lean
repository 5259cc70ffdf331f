/- Contracts of functions of the program, each proved by running its code symbolically (BU). -/
import Derived.Test.YtffgpipdiinkcaaBT
namespace Go.Sx.T
open Go Go.Proofs Go.Sx
set_option maxRecDepth 100000
set_option maxHeartbeats 4000000
set_option linter.unusedVariables false
set_option linter.unusedSimpArgs false
theorem splitB_ok {l : List Box} {id at' next : Int} (h : (splitB l id at' next).2 = 0) : Right l ∧ ∃ i, i < l.length ∧ (l.getD i default).ID = id ∧ 0 ≤ at' ∧ at' ≤ (l.getD i default).Contents.length ∧ 1 ≤ next ∧ next ≤ 1073741824 ∧
    (l.getD (l.length - 1) default).ID < next ∧ l.length < 128 ∧ (splitB l id at' next).1 = withC l i ((l.getD i default).Contents.take at'.toNat) ++ [(l.getD i default).next next ((l.getD i default).Contents.drop at'.toNat)] := by
  unfold splitB at h ⊢
  split at h
  · cases h
  · rename_i h1
    have h1' : check l = 0 := by simpa using h1
    rw [if_neg h1]
    split at h
    · cases h
    · rename_i h2
      rw [if_neg h2]
      obtain ⟨i, hi, ei, hid⟩ : ∃ i : Nat, i < l.length ∧ findI l (fun b => decide (b.ID = id)) = i ∧ (l.getD i default).ID = id := by
        rcases findI_cases l (fun b => decide (b.ID = id)) with ⟨e, _⟩ | ⟨k, hk, e, _, _, hp, _⟩
        · omega
        · exact ⟨k, hk, e, of_decide_eq_true hp⟩
      simp only [ei, Int.toNat_natCast] at h ⊢
      split at h
      · cases h
      · rename_i h3
        simp only [Bool.or_eq_true, Bool.not_eq_true', not_or, Bool.not_eq_false] at h3
        have h3' := h3
        simp only [inB, Bool.and_eq_true, decide_eq_true_eq] at h3'
        rw [if_neg (by rw [h3.1, h3.2]; decide)]
        split at h
        · cases h
        · rename_i h4
          rw [if_neg h4]
          split at h
          · cases h
          · rename_i h5
            rw [if_neg h5]
            exact ⟨check_iff.1 h1', i, hi, hid, h3'.1.1, h3'.1.2, h3'.2.1, h3'.2.2, by omega, by omega, rfl⟩
theorem sumT_take_le {cs : List Content} (h : ∀ c ∈ cs, okC c = true) (a : Nat) : sumT (cs.take a) ≤ sumT cs ∧ sumT (cs.drop a) ≤ sumT cs := by
  have e := sumT_append (cs.take a) (cs.drop a)
  rw [List.take_append_drop] at e
  have h1 := sumT_bound (cs.take a) fun c hc => h c (List.mem_of_mem_take hc)
  have h2 := sumT_bound (cs.drop a) fun c hc => h c (List.mem_of_mem_drop hc)
  omega
theorem formB_alt {b : Box} {id : Int} {cs : List Content} (h : formB b = true) (hid : inB id 1 1073741824 = true) (hc : ∀ c ∈ cs, okC c = true) : formB ⟨id, b.Width, b.Room, b.Climate, cs⟩ = true := by
  simp only [formB, hdrOK, Bool.and_eq_true, Bool.not_eq_true', List.any_eq_false, Bool.not_eq_true] at h ⊢
  exact ⟨⟨⟨⟨hid, h.1.1.1.2⟩, h.1.1.2⟩, h.1.2⟩, fun c hcm => by rw [hc c hcm]; decide⟩
theorem faultB_alt {b : Box} {id : Int} {cs : List Content} (h : faultB b = 0) (hid : inB id 1 1073741824 = true) (hc : ∀ c ∈ cs, okC c = true) (hl : cs.length ≤ 32) (hs : sumT cs ≤ b.Room) : faultB ⟨id, b.Width, b.Room, b.Climate, cs⟩ = 0 :=
  fault_zero.2 ⟨formB_alt (fault_zero.1 h).1 hid hc, hl, hs⟩
theorem formB_id {b : Box} (h : formB b = true) : inB b.ID 1 1073741824 = true := by
  simp only [formB, hdrOK, Bool.and_eq_true] at h
  exact h.1.1.1.1
theorem unitsC_append (a b : List Content) : unitsC (a ++ b) = unitsC a ++ unitsC b := by simp [unitsC]
theorem units_withC_perm {l : List Box} {i : Nat} {cs : List Content} (hi : i < l.length) : (units (withC l i cs) ++ unitsC (l.getD i default).Contents).Perm (units l ++ unitsC cs) := by
  obtain ⟨h1, h2⟩ := units_split l i cs hi
  rw [h1, h2]
  simp only [List.append_assoc]
  refine List.Perm.append_left _ ?_
  refine List.perm_iff_count.2 fun a => ?_
  simp only [List.count_append]
  omega
theorem asc_last {l : List Box} (h : l.Pairwise (fun a b => a.ID < b.ID)) {b : Box} (hb : b ∈ l) : b.ID ≤ (l.getD (l.length - 1) default).ID := by
  obtain ⟨i, hi, e⟩ := List.mem_iff_getElem.1 hb
  rcases Nat.lt_or_ge i (l.length - 1) with h1 | h1
  · have := List.pairwise_iff_getElem.1 h i (l.length - 1) hi (by omega) h1
    rw [getD_of_lt _ _ (by omega), ← e]; omega
  · have : i = l.length - 1 := by omega
    subst this
    rw [getD_of_lt _ _ hi, e]; exact Int.le_refl _
theorem split_right {l : List Box} {id at' next : Int} (h : (splitB l id at' next).2 = 0) : Right (splitB l id at' next).1 ∧ (units (splitB l id at' next).1).Perm (units l) ∧ (splitB l id at' next).1.length = l.length + 1 := by
  obtain ⟨hr, i, hi, hid, a0, a1, n0, n1, hlast, hlen, e⟩ := splitB_ok h
  rw [e]
  have hf := hr.fault _ (getD_mem l default i hi)
  obtain ⟨f1, f2, f3⟩ := fault_zero.1 hf
  have f4 := formB_conts f1
  obtain ⟨s1, s2⟩ := sumT_take_le f4 at'.toNat
  have hperm : (units (withC l i ((l.getD i default).Contents.take at'.toNat) ++ [(l.getD i default).next next ((l.getD i default).Contents.drop at'.toNat)])).Perm (units l) := by
    have hp := units_withC_perm (cs := (l.getD i default).Contents.take at'.toNat) hi
    rw [units_append]
    refine List.perm_iff_count.2 fun a => ?_
    have h1 := List.perm_iff_count.1 hp a
    simp only [List.count_append, units, Box.next, List.append_nil] at h1 ⊢
    have h2 : List.count a (unitsC (l.getD i default).Contents) = List.count a (unitsC ((l.getD i default).Contents.take at'.toNat)) + List.count a (unitsC ((l.getD i default).Contents.drop at'.toNat)) := by
      rw [← List.count_append, ← unitsC_append, List.take_append_drop]
    omega
  refine ⟨⟨?_, ?_, ?_, ?_⟩, hperm, ?_⟩
  · rw [List.length_append, withC_length]; simp; omega
  · intro b hb
    rcases List.mem_append.1 hb with hb | hb
    · refine withC_mem hi (p := fun b => faultB b = 0) hr.fault ?_ b hb
      exact faultB_alt hf (formB_id f1) (fun c hc => f4 c (List.mem_of_mem_take hc)) (by rw [List.length_take]; omega) (by omega)
    · simp only [List.mem_singleton] at hb
      subst hb
      exact faultB_alt hf (by simp [inB]; omega) (fun c hc => f4 c (List.mem_of_mem_drop hc)) (by rw [List.length_drop]; omega) (by omega)
  · rw [List.pairwise_append]
    refine ⟨withC_asc hi hr.asc, by simp, fun x hx y hy => ?_⟩
    simp only [List.mem_singleton] at hy
    subst hy
    show x.ID < next
    have : x.ID ≤ (l.getD (l.length - 1) default).ID := by
      refine withC_mem hi (p := fun b => b.ID ≤ (l.getD (l.length - 1) default).ID) (fun b hb => asc_last hr.asc hb) ?_ x hx
      show (l.getD i default).ID ≤ _
      exact asc_last hr.asc (getD_mem l default i hi)
    omega
  · exact (List.Perm.nodup_iff hperm).2 hr.nodup
  · rw [List.length_append, withC_length]; rfl
theorem rejoined {l : List Box} {id at' next : Int} (h : (splitB l id at' next).2 = 0) : joinB (splitB l id at' next).1 id next = (l, 0) := by
  obtain ⟨hR, _, hlen'⟩ := split_right h
  obtain ⟨hr, i, hi, hid, a0, a1, n0, n1, hlast, hlen, e⟩ := splitB_ok h
  rw [e] at hR hlen' ⊢
  obtain ⟨f1, f2, f3⟩ := fault_zero.1 (hr.fault _ (getD_mem l default i hi))
  have f4 := formB_conts f1
  have hgi : (withC l i ((l.getD i default).Contents.take at'.toNat) ++ [(l.getD i default).next next ((l.getD i default).Contents.drop at'.toNat)]).getD i default = { l.getD i default with Contents := (l.getD i default).Contents.take at'.toNat } := by
    rw [getD_append_left _ _ _ (by rw [withC_length]; exact hi), getD_withC _ _ _ _ hi, if_pos rfl]
  have hgn : (withC l i ((l.getD i default).Contents.take at'.toNat) ++ [(l.getD i default).next next ((l.getD i default).Contents.drop at'.toNat)]).getD l.length default = (l.getD i default).next next ((l.getD i default).Contents.drop at'.toNat) := by
    rw [List.getD_eq_getElem?_getD, List.getElem?_append_right (by rw [withC_length]; exact Nat.le_refl _), withC_length, Nat.sub_self]; rfl
  have k1 := asc_findI hR.asc i (by rw [hlen']; omega)
  have k2 := asc_findI hR.asc l.length (by rw [hlen']; omega)
  rw [hgi] at k1
  rw [hgn] at k2
  have k1' : findI (withC l i ((l.getD i default).Contents.take at'.toNat) ++ [(l.getD i default).next next ((l.getD i default).Contents.drop at'.toNat)]) (fun x => decide (x.ID = id)) = i := by
    rw [← hid]; exact k1
  have k2' : findI (withC l i ((l.getD i default).Contents.take at'.toNat) ++ [(l.getD i default).next next ((l.getD i default).Contents.drop at'.toNat)]) (fun x => decide (x.ID = next)) = l.length := k2
  have hs := sumT_append ((l.getD i default).Contents.take at'.toNat) ((l.getD i default).Contents.drop at'.toNat)
  rw [List.take_append_drop] at hs
  rw [joinB, if_neg (fun h => h (check_iff.2 hR)), k1', k2', if_neg (by omega), Int.toNat_natCast, Int.toNat_natCast, joinAt, if_neg (by omega), hgi, hgn]
  have hl2 : ((l.getD i default).Contents.take at'.toNat).length + ((l.getD i default).Contents.drop at'.toNat).length = (l.getD i default).Contents.length := by
    rw [← List.length_append, List.take_append_drop]
  rw [if_neg (fun h => h rfl), if_neg (by simp only [Box.next]; omega), if_neg (by simp only [Box.next]; omega)]
  refine Prod.ext ?_ rfl
  show joinL _ i l.length = l
  unfold joinL
  rw [hgi, hgn]
  simp only [Box.next, List.take_append_drop]
  have hset : ∀ (r : List Box) (cs : List Content) (b : Box), i < r.length → withC (r ++ [b]) i cs = withC r i cs ++ [b] := by
    intro r cs b hir
    unfold withC
    rw [getD_append_left _ _ _ hir, List.set_append_left _ _ hir]
  rw [hset _ _ _ (by rw [withC_length]; exact hi), withC_withC _ _ _ _ hi, withC_same l i hi, List.eraseIdx_append_of_length_le (by omega)]
  simp
theorem join_right {l : List Box} {a b : Int} (h : (joinB l a b).2 = 0) : Right (joinB l a b).1 ∧ (units (joinB l a b).1).Perm (units l) ∧ (joinB l a b).1.length ≤ l.length := by
  unfold joinB at h ⊢
  split at h
  · cases h
  · rename_i h1
    have hr := check_iff.1 (by simpa using h1 : check l = 0)
    rw [if_neg h1]
    split at h
    · cases h
    · rename_i h2
      rw [if_neg h2]
      obtain ⟨i, hi, ei⟩ : ∃ i : Nat, i < l.length ∧ findI l (fun x => decide (x.ID = a)) = i := by
        rcases findI_cases l (fun x => decide (x.ID = a)) with ⟨e, _⟩ | ⟨k, hk, e, _⟩
        · omega
        · exact ⟨k, hk, e⟩
      obtain ⟨k, hk, ek⟩ : ∃ i : Nat, i < l.length ∧ findI l (fun x => decide (x.ID = b)) = i := by
        rcases findI_cases l (fun x => decide (x.ID = b)) with ⟨e, _⟩ | ⟨k, hk, e, _⟩
        · omega
        · exact ⟨k, hk, e⟩
      rw [ei, ek, Int.toNat_natCast, Int.toNat_natCast] at h ⊢
      unfold joinAt at h ⊢
      split at h
      · cases h
      · rename_i h3
        rw [if_neg h3]
        split at h
        · cases h
        · rename_i h4
          rw [if_neg h4]
          split at h
          · cases h
          · rename_i h5
            rw [if_neg h5]
            split at h
            · cases h
            · rename_i h6
              rw [if_neg h6]
              simp only
              have hfi := hr.fault _ (getD_mem l default i hi)
              obtain ⟨f1, f2, f3⟩ := fault_zero.1 hfi
              obtain ⟨g1, g2, g3⟩ := fault_zero.1 (hr.fault _ (getD_mem l default k hk))
              have hlen : (joinL l i k).length = l.length - 1 := by rw [joinL, List.length_eraseIdx, if_pos (by rw [withC_length]; exact hk), withC_length]
              have hkw : k < (withC l i ((l.getD i default).Contents ++ (l.getD k default).Contents)).length := by rw [withC_length]; exact hk
              have hperm : (units (joinL l i k)).Perm (units l) := by
                have hp := units_withC_perm (cs := (l.getD i default).Contents ++ (l.getD k default).Contents) hi
                have hsp := (units_split (withC l i ((l.getD i default).Contents ++ (l.getD k default).Contents)) k [] hkw).2
                have hgk : (withC l i ((l.getD i default).Contents ++ (l.getD k default).Contents)).getD k default = l.getD k default := by
                  rw [getD_withC _ _ _ _ hi, if_neg (Ne.symm h3)]
                rw [hgk] at hsp
                unfold joinL
                rw [List.eraseIdx_eq_take_drop_succ, units_append]
                refine List.perm_iff_count.2 fun q => ?_
                have h7 := List.perm_iff_count.1 hp q
                rw [hsp, unitsC_append] at h7
                simp only [List.count_append] at h7 ⊢
                omega
              refine ⟨⟨by have := hr.len; omega, fun b hb => ?_, ?_, (List.Perm.nodup_iff hperm).2 hr.nodup⟩, hperm, by omega⟩
              · have hb' := List.mem_of_mem_eraseIdx hb
                refine withC_mem hi (p := fun b => faultB b = 0) hr.fault ?_ b hb'
                refine faultB_alt hfi (formB_id f1) (fun c hc => ?_) (by rw [List.length_append]; omega) (by rw [sumT_append]; omega)
                rcases List.mem_append.1 hc with hc | hc
                · exact formB_conts f1 c hc
                · exact formB_conts g1 c hc
              · exact List.Pairwise.sublist (List.eraseIdx_sublist _ _) (withC_asc hi hr.asc)
theorem split_err {l : List Box} {id at' next : Int} (h : (splitB l id at' next).2 ≠ 0) : (splitB l id at' next).1 = [] := by
  unfold splitB at h ⊢
  split
  · rfl
  · rename_i h1; rw [if_neg h1] at h
    split
    · rfl
    · rename_i h2; rw [if_neg h2] at h
      simp only at h ⊢
      split
      · rfl
      · rename_i h3; rw [if_neg h3] at h
        split
        · rfl
        · rename_i h4; rw [if_neg h4] at h
          split
          · rfl
          · rename_i h5; rw [if_neg h5] at h; exact (h rfl).elim
theorem s8 (l : List Box) (x0 x1 x2 : Int) : Spec Try.prog 8 [boxes l, .agg [.int .i64 x0, .int .i64 x1, .int .i64 x2]] (.bool true) := by
  refine spec_lenEl 0 rfl (hasBody_of_slim Try.func8 F8_ok) fun hlen hel => ?_
  refine spec_of_good mixed Try.func8 F8_ok (by kernel_rfl) ?_
  refine good_run 9 (obs := []) (by kernel_rfl) trivial ?_
  refine good_call (c := True) (by kernel_rfl) (fun _ => SVles.refl _) (fun _ => s10) (by kernel_rfl) ?_
  refine good_run 3 (obs := []) (by kernel_rfl) trivial ?_
  refine good_cond false (by kernel_rfl) (fun h => nomatch h) (fun _ => ?_)
  refine good_run 5 (obs := []) (by kernel_rfl) trivial ?_
  refine good_call (c := True) (by kernel_rfl) (fun _ => SVles.refl _) (fun _ => s11 (l)) (by kernel_rfl) ?_
  refine good_run 3 (obs := []) (by kernel_rfl) trivial ?_
  refine good_cond (!few l) (by kernel_rfl) (fun hc1 => ?_) (fun hc1 => ?_)
  · refine good_run 7 (obs := []) (by kernel_rfl) trivial ?_
    refine good_fin [true = true] (by kernel_rfl) ⟨rfl, trivial⟩
  · simp only [Bool.not_eq_false'] at hc1
    obtain ⟨h1, h2⟩ := few_spec hc1
    have h3 : ∀ b ∈ l, b.Contents.length ≤ 100000 := fun b hb => by have := h2 b hb; omega
    refine good_run 4 (obs := []) (by kernel_rfl) trivial ?_
    refine good_call (c := True) (by kernel_rfl) (fun _ => SVles.refl _) (fun _ => SpecOwn.spec (s13 (l) (by (first | omega | assumption | exact ⟨rfl, trivial⟩ | simp only [AllP, inK_iff, roomOK_iff, decide_eq_true_eq, Bool.and_eq_true, Bool.or_eq_true, Bool.not_eq_true', decide_eq_false_iff_not, and_true, true_and]; (first | omega | (and_intros <;> intros <;> (try and_intros) <;> first | omega | assumption | exact trivial)))) (by (first | omega | assumption | exact ⟨rfl, trivial⟩ | simp only [AllP, inK_iff, roomOK_iff, decide_eq_true_eq, Bool.and_eq_true, Bool.or_eq_true, Bool.not_eq_true', decide_eq_false_iff_not, and_true, true_and]; (first | omega | (and_intros <;> intros <;> (try and_intros) <;> first | omega | assumption | exact trivial)))))) (by kernel_rfl) ?_
    refine good_run 6 (obs := [True → (0 : Int) ≤ (0 : Int) ∧ (0 : Int) < (3 : Int), True → (0 : Int) ≤ (1 : Int) ∧ (1 : Int) < (3 : Int), True → (0 : Int) ≤ (2 : Int) ∧ (2 : Int) < (3 : Int)]) (by kernel_rfl) (by (first | omega | assumption | exact ⟨rfl, trivial⟩ | simp only [AllP, inK_iff, roomOK_iff, decide_eq_true_eq, Bool.and_eq_true, Bool.or_eq_true, Bool.not_eq_true', decide_eq_false_iff_not, and_true, true_and]; (first | omega | (and_intros <;> intros <;> (try and_intros) <;> first | omega | assumption | exact trivial)))) ?_
    refine good_call (c := True) (by kernel_rfl) (fun _ => SVles.refl _) (fun _ => s19 (l) (x0) (x1) (x2) (by (first | omega | assumption | exact ⟨rfl, trivial⟩ | simp only [AllP, inK_iff, roomOK_iff, decide_eq_true_eq, Bool.and_eq_true, Bool.or_eq_true, Bool.not_eq_true', decide_eq_false_iff_not, and_true, true_and]; (first | omega | (and_intros <;> intros <;> (try and_intros) <;> first | omega | assumption | exact trivial))))) (by kernel_rfl) ?_
    refine good_run 14 (obs := []) (by kernel_rfl) trivial ?_
    refine good_cond (!decide ((splitB l x0 x1 x2).snd = (0 : Int))) (by kernel_rfl) (fun hc2 => ?_) (fun hc2 => ?_)
    · simp only [Bool.not_eq_true', decide_eq_false_iff_not] at hc2
      have := split_err hc2
      refine good_run 10 (obs := []) (by kernel_rfl) trivial ?_
      refine good_fin [decide ((↑(List.length (splitB l x0 x1 x2).fst) : Int) = (0 : Int)) = true] (by kernel_rfl) ⟨?_, trivial⟩
      all_goals (rw [this]; rfl)
    · simp only [Bool.not_eq_false', decide_eq_true_eq] at hc2
      obtain ⟨q1, q2, q3⟩ := split_right hc2
      have q4 := rejoined hc2
      have q5 : ∀ b ∈ (splitB l x0 x1 x2).1, b.Contents.length ≤ 100000 := fun b hb => by
        have := (fault_zero.1 (q1.fault b hb)).2.1; omega
      have q6 := check_iff.2 q1
      refine good_run 4 (obs := []) (by kernel_rfl) trivial ?_
      refine good_call (c := True) (by kernel_rfl) (fun _ => SVles.refl _) (fun _ => SpecOwn.spec (s13 ((splitB l x0 x1 x2).fst) (by (first | omega | assumption | exact ⟨rfl, trivial⟩ | simp only [AllP, inK_iff, roomOK_iff, decide_eq_true_eq, Bool.and_eq_true, Bool.or_eq_true, Bool.not_eq_true', decide_eq_false_iff_not, and_true, true_and]; (first | omega | (and_intros <;> intros <;> (try and_intros) <;> first | omega | assumption | exact trivial)))) (by (first | omega | assumption | exact ⟨rfl, trivial⟩ | simp only [AllP, inK_iff, roomOK_iff, decide_eq_true_eq, Bool.and_eq_true, Bool.or_eq_true, Bool.not_eq_true', decide_eq_false_iff_not, and_true, true_and]; (first | omega | (and_intros <;> intros <;> (try and_intros) <;> first | omega | assumption | exact trivial)))))) (by kernel_rfl) ?_
      refine good_run 4 (obs := [True → (0 : Int) ≤ (0 : Int) ∧ (0 : Int) < (3 : Int), True → (0 : Int) ≤ (2 : Int) ∧ (2 : Int) < (3 : Int)]) (by kernel_rfl) (by (first | omega | assumption | exact ⟨rfl, trivial⟩ | simp only [AllP, inK_iff, roomOK_iff, decide_eq_true_eq, Bool.and_eq_true, Bool.or_eq_true, Bool.not_eq_true', decide_eq_false_iff_not, and_true, true_and]; (first | omega | (and_intros <;> intros <;> (try and_intros) <;> first | omega | assumption | exact trivial)))) ?_
      refine good_call (c := True) (by kernel_rfl) (fun _ => SVles.refl _) (fun _ => s26 ((splitB l x0 x1 x2).fst) (x0) (x2) (by (first | omega | assumption | exact ⟨rfl, trivial⟩ | simp only [AllP, inK_iff, roomOK_iff, decide_eq_true_eq, Bool.and_eq_true, Bool.or_eq_true, Bool.not_eq_true', decide_eq_false_iff_not, and_true, true_and]; (first | omega | (and_intros <;> intros <;> (try and_intros) <;> first | omega | assumption | exact trivial))))) (by kernel_rfl) ?_
      refine good_run 10 (obs := []) (by kernel_rfl) trivial ?_
      refine good_own (c := True) (by kernel_rfl) (by kernel_rfl) (SVles.refl _) (s13 ((splitB l x0 x1 x2).fst) (by (first | omega | assumption | exact ⟨rfl, trivial⟩ | simp only [AllP, inK_iff, roomOK_iff, decide_eq_true_eq, Bool.and_eq_true, Bool.or_eq_true, Bool.not_eq_true', decide_eq_false_iff_not, and_true, true_and]; (first | omega | (and_intros <;> intros <;> (try and_intros) <;> first | omega | assumption | exact trivial)))) (by (first | omega | assumption | exact ⟨rfl, trivial⟩ | simp only [AllP, inK_iff, roomOK_iff, decide_eq_true_eq, Bool.and_eq_true, Bool.or_eq_true, Bool.not_eq_true', decide_eq_false_iff_not, and_true, true_and]; (first | omega | (and_intros <;> intros <;> (try and_intros) <;> first | omega | assumption | exact trivial))))) ?_
      refine good_call (c := True) (by kernel_rfl) (fun _ => SVles.refl _) (fun _ => s17 ((splitB l x0 x1 x2).fst)) (by kernel_rfl) ?_
      refine good_run 17 (obs := [decide (check (splitB l x0 x1 x2).fst = (0 : Int)) = true ∧ True → InK IntKind.i64 ((↑(List.length l) : Int) + (1 : Int))]) (by kernel_rfl) (by (first | omega | assumption | exact ⟨rfl, trivial⟩ | simp only [AllP, inK_iff, roomOK_iff, decide_eq_true_eq, Bool.and_eq_true, Bool.or_eq_true, Bool.not_eq_true', decide_eq_false_iff_not, and_true, true_and]; (first | omega | (and_intros <;> intros <;> (try and_intros) <;> first | omega | assumption | exact trivial)))) ?_
      refine good_call (c := (decide (check (splitB l x0 x1 x2).fst = (0 : Int)) && decide ((↑(List.length (splitB l x0 x1 x2).fst) : Int) = (↑(List.length l) : Int) + (1 : Int)) && decide ((joinB (splitB l x0 x1 x2).fst x0 x2).snd = (0 : Int))) = true ∧ True) (by kernel_rfl) (fun _ => SVles.refl _) (fun _ => s25 ((joinB (splitB l x0 x1 x2).fst x0 x2).fst) (l)) (by kernel_rfl) ?_
      refine good_run 6 (obs := []) (by kernel_rfl) trivial ?_
      refine good_fin [(decide (check (splitB l x0 x1 x2).fst = (0 : Int)) && decide ((↑(List.length (splitB l x0 x1 x2).fst) : Int) = (↑(List.length l) : Int) + (1 : Int)) && decide ((joinB (splitB l x0 x1 x2).fst x0 x2).snd = (0 : Int)) && decide ((joinB (splitB l x0 x1 x2).fst x0 x2).fst = l)) = true] (by kernel_rfl) ⟨?_, trivial⟩
      rw [q4, q6, q3]
      simp
end Go.Sx.T
