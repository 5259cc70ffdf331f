/- Contracts of functions of the program, each proved by running its code symbolically (VO). -/
import Derived.Test.YtejhgipllmjhfaaVN
namespace Go.Sx.T
open Go Go.Proofs Go.Sx
set_option maxRecDepth 100000
set_option maxHeartbeats 4000000
set_option linter.unusedVariables false
set_option linter.unusedSimpArgs false
theorem miss_kF (xs ns : List Int) (n : Nat) : missK (kF xs) ns n = missK (foldU xs) ns n := by
  unfold missK
  congr 1
  funext x
  congr 1
  rw [Bool.eq_iff_iff, List.contains_iff_mem, List.contains_iff_mem, (kF_spec xs).2.1, (foldU_spec xs).2]
theorem rest_kF (xs ns : List Int) : isort (restK (kF xs) ns ns.length) = missK ns (foldU xs) (foldU xs).length := by
  obtain ⟨h1, h2, _⟩ := kF_spec xs
  obtain ⟨h3, h4⟩ := foldU_spec xs
  have h5 : (foldU xs).Nodup := h3.imp (fun h => by omega)
  have e : missK ns (foldU xs) (foldU xs).length = (foldU xs).filter fun x => !ns.contains x := by rw [missK, List.take_length]
  have e2 : restK (kF xs) ns ns.length = (kF xs).filter fun x => !ns.contains x := by rw [restK, List.take_length]
  rw [e, e2]
  refine List.Perm.eq_of_pairwise (le := (· ≤ ·)) (fun x y _ _ h1 h2 => Int.le_antisymm h1 h2) (isort_sorted _) ((h3.imp (fun h => by omega)).sublist List.filter_sublist) ((isort_perm _).trans ?_)
  refine (List.perm_ext_iff_of_nodup (h1.sublist List.filter_sublist) (h5.sublist List.filter_sublist)).2 fun x => ?_
  rw [List.mem_filter, List.mem_filter, h2, h4]
end Go.Sx.T
