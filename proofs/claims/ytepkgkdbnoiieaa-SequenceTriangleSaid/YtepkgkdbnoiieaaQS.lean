/- Contracts of functions of the program, each proved by running its code symbolically (QS). -/
import Derived.Test.YtepkgkdbnoiieaaQR
namespace Go.Sx.T
open Go Go.Proofs Go.Sx
set_option maxRecDepth 100000
set_option maxHeartbeats 8000000
set_option linter.unusedVariables false
set_option linter.unusedSimpArgs false
theorem appOK_zero {o : List Int} {m : Shift} : appOK o m = 0 ↔ m.Number ∈ o ∧ (m.Before = 0 ∨ m.Before ∈ o) ∧ m.Number ≠ m.Before := by
  unfold appOK
  constructor
  · intro h
    split at h
    · simp at h
    · rename_i h1
      split at h
      · simp at h
      · rename_i h2
        refine ⟨Classical.byContradiction fun h => h1 (.inl h), Classical.byContradiction fun h => h1 (.inr ⟨fun e => h (.inl e), fun e => h (.inr e)⟩), h2⟩
  · rintro ⟨h1, h2, h3⟩
    rw [if_neg, if_neg h3]
    rintro (h | ⟨h, h'⟩)
    · exact h h1
    · rcases h2 with h2 | h2
      · exact h h2
      · exact h' h2
theorem appStep_perm (o : List Int) (m : Shift) (hn : o.Nodup) (hm : m.Number ∈ o) : (appStep o m).Perm o := by
  have h1 : (appStep o m).Perm (m.Number :: restO o m) := by
    unfold appStep
    have := (placeO_bd o m).2
    rw [insIdx_split _ _ _ (by omega)]
    refine List.perm_middle.trans ?_
    rw [List.take_append_drop]
  refine h1.trans ?_
  have h2 : restO o m = o.erase m.Number := by
    rw [hn.erase_eq_filter]
    unfold restO
    refine List.filter_congr fun x _ => ?_
    by_cases e : x = m.Number <;> simp [eqK, e]
  rw [h2]
  exact (List.perm_cons_erase hm).symm
end Go.Sx.T
