/- Contracts of functions of the program, each proved by running its code symbolically (QOP). -/
import Derived.Test.YtepkgkdbnoiieaaQRP
namespace Go.Sx.T
open Go Go.Proofs Go.Sx
set_option maxRecDepth 100000
set_option maxHeartbeats 4000000
set_option linter.unusedVariables false
set_option linter.unusedSimpArgs false
/-! The moves of Restore sort; no fewer do. -/
/-! No fewer moves. -/
theorem appF_perm : ∀ (ms : List Shift) (o out : List Int), o.Nodup → appF o ms = (out, 0) → out.Perm o
  | [], o, out, _, h => by
    rw [appF] at h
    injection h with h _
    rw [h]
  | m :: ms, o, out, hn, h => by
    rw [appF] at h
    split at h
    · rename_i ha
      have hp := appStep_perm o m hn (appOK_zero.1 ha).1
      exact (appF_perm ms _ out (hp.nodup_iff.2 hn) h).trans hp
    · rename_i hne
      injection h with _ h
      exact absurd h hne
end Go.Sx.T
