/- Contracts of functions of the program, each proved by running its code symbolically (VX). -/
import Derived.Test.YtejhgipllmjhfaaVU
namespace Go.Sx.T
open Go Go.Proofs Go.Sx
set_option maxRecDepth 100000
set_option maxHeartbeats 4000000
set_option linter.unusedVariables false
set_option linter.unusedSimpArgs false
/-- Two entries that go together. -/
def goT (x y : Came) : Prop := y.Acc ≠ 0 → x.Acc = y.Acc → x.Num ≠ y.Num ∧ x.Office = y.Office
theorem ofC_mem {l : List Came} (h : l.Pairwise fun a b => a.Unit < b.Unit) {d : Came} (hd : d ∈ l) : ofC l d.Unit = (d, true) := by
  unfold ofC
  have : l.find? (fun c => decide (c.Unit = d.Unit)) = some d := by
    induction l with
    | nil => simp at hd
    | cons x r ih =>
      rw [List.pairwise_cons] at h
      rcases List.mem_cons.1 hd with e | hd
      · rw [e]; simp
      · have := h.1 d hd
        rw [List.find?_cons_of_neg (by simp; omega)]
        exact ih h.2 hd
  rw [this]
end Go.Sx.T
