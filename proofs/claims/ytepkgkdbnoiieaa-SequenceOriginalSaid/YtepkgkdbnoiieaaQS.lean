/- Contracts of functions of the program, each proved by running its code symbolically (QS). -/
import Derived.Test.YtepkgkdbnoiieaaQR
namespace Go.Sx.T
open Go Go.Proofs Go.Sx
set_option maxRecDepth 100000
set_option maxHeartbeats 8000000
set_option linter.unusedVariables false
set_option linter.unusedSimpArgs false
theorem restO_append (A B : List Int) (m : Shift) : restO (A ++ B) m = restO A m ++ restO B m := List.filter_append ..
theorem restO_cons (x : Int) (B : List Int) (m : Shift) (h : x ≠ m.Number) : restO (x :: B) m = x :: restO B m := by
  unfold restO
  rw [List.filter_cons, if_pos (by simp [eqK, h])]
theorem appOK_zero {o : List Int} {m : Shift} : appOK o m = 0 ↔ m.Number ∈ o ∧ (m.Before = 0 ∨ m.Before ∈ o) ∧ m.Number ≠ m.Before := by
  unfold appOK
  constructor
  · intro h
    split at h
    · simp at h
    · rename_i h1
      split at h
      · simp at h
      · rename_i h2
        refine ⟨Classical.byContradiction fun h => h1 (.inl h), Classical.byContradiction fun h => h1 (.inr ⟨fun e => h (.inl e), fun e => h (.inr e)⟩), h2⟩
  · rintro ⟨h1, h2, h3⟩
    rw [if_neg, if_neg h3]
    rintro (h | ⟨h, h'⟩)
    · exact h h1
    · rcases h2 with h2 | h2
      · exact h h2
      · exact h' h2
/-- Where the number comes to stand. -/
theorem appStep_split (A C : List Int) (m : Shift) (hn : (A ++ m.Before :: C).Nodup) (hd : m.Number ≠ m.Before) : appStep (A ++ m.Before :: C) m = restO A m ++ m.Number :: m.Before :: restO C m := by
  have hA : m.Before ∉ A := fun h => (List.nodup_append.1 hn).2.2 _ h _ (List.mem_cons_self ..) rfl
  have e : restO (A ++ m.Before :: C) m = restO A m ++ m.Before :: restO C m := by
    rw [restO_append, restO_cons _ _ _ (fun e => hd e.symm)]
  have hf : findI (restO (A ++ m.Before :: C) m) (eqK m.Before) = ((restO A m).length : Int) := by
    rw [e]
    refine findI_hit _ _ _ (by simp) ?_ fun j hj => ?_
    · rw [getD_append_right _ _ _ (Nat.le_refl _), Nat.sub_self]; simp [eqK]
    · rw [getD_append_left _ _ _ hj]
      have hm : (restO A m).getD j default ∈ A := (List.mem_filter.1 (getD_mem _ default _ hj)).1
      simp only [eqK, decide_eq_false_iff_not]
      intro e'
      rw [e'] at hm
      exact hA hm
  unfold appStep placeO
  rw [hf, if_neg (by omega), Int.toNat_natCast, e, insIdx_split _ _ _ (by simp), List.take_left, List.drop_left]
theorem appStep_zero (o : List Int) (m : Shift) (h0 : m.Before ∉ o) : appStep o m = restO o m ++ [m.Number] := by
  have hf : findI (restO o m) (eqK m.Before) = -1 := findI_none _ _ fun j hj => by
    have hm : (restO o m).getD j default ∈ o := (List.mem_filter.1 (getD_mem _ default _ hj)).1
    simp only [eqK, decide_eq_false_iff_not]
    intro e'
    rw [e'] at hm
    exact h0 hm
  unfold appStep placeO
  rw [hf, if_pos (by decide), Int.toNat_natCast, insIdx_split _ _ _ (Nat.le_refl _), List.take_length, List.drop_length]
theorem appStep_perm (o : List Int) (m : Shift) (hn : o.Nodup) (hm : m.Number ∈ o) : (appStep o m).Perm o := by
  have h1 : (appStep o m).Perm (m.Number :: restO o m) := by
    unfold appStep
    have := (placeO_bd o m).2
    rw [insIdx_split _ _ _ (by omega)]
    refine List.perm_middle.trans ?_
    rw [List.take_append_drop]
  refine h1.trans ?_
  have h2 : restO o m = o.erase m.Number := by
    rw [hn.erase_eq_filter]
    unfold restO
    refine List.filter_congr fun x _ => ?_
    by_cases e : x = m.Number <;> simp [eqK, e]
  rw [h2]
  exact (List.perm_cons_erase hm).symm
end Go.Sx.T
