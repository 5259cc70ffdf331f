/- Contracts of functions of the program, each proved by running its code symbolically (HP). -/
import Derived.Test.YtgnffeajpmniiaaHO
namespace Go.Sx.T
open Go Go.Proofs Go.Sx
set_option maxRecDepth 100000
set_option maxHeartbeats 4000000
set_option linter.unusedVariables false
set_option linter.unusedSimpArgs false
theorem findP_hit (id : Int) : ∀ (s : List Std) (i p : Nat) (k : Nat), p < s.length → (∀ j, j < p → id ∉ (s.getD j default).Boxes) → findI (s.getD p default).Boxes (eqK id) = k → findP id i s = (((i + p : Nat) : Int), (k : Int))
  | [], i, p, k, h, _, _ => by simp at h
  | x :: r, i, p, k, h, hn, hk => by
    cases p with
    | zero =>
      have hk' : findI x.Boxes (eqK id) = k := by simpa using hk
      rw [findP, if_neg (by omega), hk']; rfl
    | succ p =>
      have h0 := hn 0 (by omega)
      rcases findI_eqK x.Boxes id with ⟨h1, h2⟩ | ⟨m, hm, h1, h2, h3⟩
      · rw [findP, if_pos (by omega), findP_hit id r (i + 1) p k (by simpa using h) (fun j hj => by simpa using hn (j + 1) (by omega)) (by simpa using hk)]
        congr 2; omega
      · exact absurd h3 (by simpa using h0)
end Go.Sx.T
