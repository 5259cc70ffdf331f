/- Contracts of functions of the program, each proved by running its code symbolically (QX8). -/
import Derived.Test.YtepkgkdbnoiieaaQTP
import Derived.Test.YtepkgkdbnoiieaaQOP
namespace Go.Sx.T
open Go Go.Proofs Go.Sx
set_option maxRecDepth 100000
set_option maxHeartbeats 8000000
set_option linter.unusedVariables false
set_option linter.unusedSimpArgs false
theorem chk_perm {l x : List Int} (h : x.Perm l) (hc : chkL l = 0) : chkL x = 0 := by
  obtain ⟨h1, h2, h3⟩ := chkL_zero.1 hc
  refine chkL_zero.2 ⟨by rw [h.length_eq]; exact h1, ?_, h.nodup_iff.2 h3⟩
  rw [List.any_eq_false] at h2 ⊢
  exact fun y hy => h2 y (h.mem_iff.1 hy)
theorem bet_val {l m : List Int} (hc : chkL l = 0) (hp : l.Perm m) : betL l m = (invC (placesL l m), 0) ∧ 0 ≤ invC (placesL l m) ∧ invC (placesL l m) ≤ (l.length : Int) * l.length := by
  have h1 := (msC_spec l.length (placesL l m) (by rw [placesL_len]; exact Nat.le_refl _)).2.2
  have h2 := msC_len l.length (placesL l m)
  rw [placesL_len, h1] at h2
  refine ⟨?_, h2.2.1, h2.2.2⟩
  unfold betL
  rw [if_pos hc, if_pos (chk_perm hp.symm hc), if_pos (isort_iff.2 hp), h1]
end Go.Sx.T
