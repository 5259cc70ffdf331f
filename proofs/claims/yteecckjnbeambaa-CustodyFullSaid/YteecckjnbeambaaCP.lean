/- Contracts of functions of the program, each proved by running its code symbolically (CP). -/
import Derived.Test.YteecckjnbeambaaCO
/- The stays of a box: what they say of its place. -/
namespace Go.Sx.T
open Go Go.Proofs Go.Sx
set_option linter.unusedVariables false
set_option linter.unusedSimpArgs false
/-- Where a box is on a day, by its moves. -/
def placeAt (h : List Move) (d : Int) : Place := h.foldl (fun p m => if m.Day ≤ d then m.To else p) ⟨0, 0⟩
structure StayI (h : List Move) (i : Nat) (q : List Place × List Span) : Prop where
  len : q.1.length = q.2.length
  pos : 0 < q.2.length
  first : (q.2.getD 0 default).From = 0
  last : (q.2.getD (q.2.length - 1) default).Until = 1048576
  each : ∀ j, j < q.2.length → (q.2.getD j default).From < (q.2.getD j default).Until
  next : ∀ j, j + 1 < q.2.length → (q.2.getD j default).Until = (q.2.getD (j + 1) default).From ∧ q.1.getD j default ≠ q.1.getD (j + 1) default
  fresh : 1 < q.2.length → i < h.length → (q.2.getD (q.2.length - 1) default).From < (h.getD i default).Day
  now : ∀ d, 0 ≤ d → (i < h.length → d < (h.getD i default).Day) → ∀ j, j < q.2.length → (q.2.getD j default).From ≤ d → d < (q.2.getD j default).Until → q.1.getD j default = placeAt h d
theorem StayI.until_le {h : List Move} {i : Nat} {q : List Place × List Span} (H : StayI h i q) : ∀ n j, j + n + 1 < q.2.length → (q.2.getD j default).Until ≤ (q.2.getD (j + n + 1) default).From
  | 0, j, hj => by rw [(H.next j hj).1]; exact Int.le_refl _
  | n + 1, j, hj => by
    have h1 := H.until_le n j (by omega)
    have h2 := H.each (j + n + 1) (by omega)
    have h3 := (H.next (j + n + 1) (by omega)).1
    have : j + (n + 1) + 1 = j + n + 1 + 1 := by omega
    rw [this]; omega
end Go.Sx.T
