/- Contracts of functions of the program, each proved by running its code symbolically (BX). -/
import Derived.Test.YtffgpipdiinkcaaBR
import Derived.Test.YtffgpipdiinkcaaBW
/- How the steps of a law read. -/
namespace Go.Proofs.Ytffgpipdiinkcaa
open Go Go.Sx Go.Sx.T Go.ChangeShapes Go.WideShapes Go.ChangeAt Go.RowKit
set_option linter.unusedVariables false
set_option maxRecDepth 100000
def inKS (p : Step) : Prop := InK .i64 p.a ∧ InK .i64 p.b ∧ InK .i64 p.c ∧ InK .i64 p.d
theorem rdStep : Rd Try.prog 56 Step.cells inKS :=
  (rd_array 4 Try.underlying56 rfl (by kernel_rfl) (rdSeg_cons (k := 1) rdI (by kernel_rfl) (fun _ => rfl) (rdSeg_cons (k := 1) rdI (by kernel_rfl) (fun _ => rfl) (rdSeg_cons (k := 1) rdI (by kernel_rfl) (fun _ => rfl) (rdSeg_cons (k := 1) rdI (by kernel_rfl) (fun _ => rfl) rdSeg_nil)))) (fun _ => rfl)).map
    (fun p => ⟨p.1, p.2.1, p.2.2.1, p.2.2.2.1⟩) (fun p h => ⟨⟨h.1, h.2.1, h.2.2.1, h.2.2.2.1⟩, rfl⟩)
theorem rdSteps : Rd Try.prog 53 (fun l : List Step => [stepsV l]) (fun l => l.length ≤ maxLen ∧ ∀ a ∈ l, inKS a) := rd_slice default Try.underlying53 (by kernel_rfl) (by decide) rdStep
end Go.Proofs.Ytffgpipdiinkcaa
