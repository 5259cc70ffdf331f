/- Contracts of functions of the program, each proved by running its code symbolically (VW). -/
import Derived.Test.YtejhgipllmjhfaaVA
import Derived.Test.YtejhgipllmjhfaaSx4
import Derived.Test.YtejhgipllmjhfaaRows
/- How the arguments of the laws read. -/
namespace Go.Proofs.Ytejhgipllmjhfaa
open Go Go.Sx Go.Sx.T Go.ChangeShapes Go.WideShapes Go.ChangeAt Go.RowKit
set_option linter.unusedVariables false
set_option maxRecDepth 100000
theorem own : ownKnob Try.prog.godebug = none := by kernel_rfl
theorem laidOut : laidOutB Try.prog = true := by kernel_rfl
theorem rdI : Rd Try.prog 3 (fun n : Int => [.int .i64 n]) (InK .i64) := rd_int Try.underlying3
def inKO (p : Int × Int × Int) : Prop := InK .i64 p.1 ∧ InK .i64 p.2.1 ∧ InK .i64 p.2.2
theorem rdOrigin : Rd Try.prog 30 (fun p : Int × Int × Int => [.int .i64 p.1, .int .i64 p.2.1, .int .i64 p.2.2]) inKO :=
  (rd_struct 3 Try.underlying30 rfl (by kernel_rfl) (rdSeg_cons rdI (by kernel_rfl) (fun _ => rfl) (rdSeg_cons rdI (by kernel_rfl) (fun _ => rfl) (rdSeg_cons rdI (by kernel_rfl) (fun _ => rfl) rdSeg_nil))) (fun _ => rfl)).map (fun p => (p.1, p.2.1, p.2.2.1)) (fun p h => ⟨⟨h.1, h.2.1, h.2.2.1⟩, rfl⟩)
def inKC (p : T.Came) : Prop := InK .i64 p.Unit ∧ InK .i64 p.Office ∧ InK .i64 p.Acc ∧ InK .i64 p.Num
theorem rdCame : Rd Try.prog 32 T.Came.cells inKC :=
  (rd_struct 4 Try.underlying32 rfl (by kernel_rfl) (rdSeg_cons rdI (by kernel_rfl) (fun _ => rfl) (rdSeg_cons (k := 3) rdOrigin (by kernel_rfl) (fun _ => rfl) rdSeg_nil)) (fun _ => rfl)).map
    (fun p => ⟨p.1, p.2.1.1, p.2.1.2.1, p.2.1.2.2⟩) (fun p h => ⟨⟨h.1, h.2.1.1, h.2.1.2.1, h.2.1.2.2⟩, rfl⟩)
theorem rdCames : Rd Try.prog 22 (fun l : List T.Came => [cames l]) (fun l => l.length ≤ maxLen ∧ ∀ a ∈ l, inKC a) := rd_slice default Try.underlying22 (by kernel_rfl) (by decide) rdCame
end Go.Proofs.Ytejhgipllmjhfaa
