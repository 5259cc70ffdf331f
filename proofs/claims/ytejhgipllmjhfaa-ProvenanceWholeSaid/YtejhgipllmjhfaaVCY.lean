/- Contracts of functions of the program, each proved by running its code symbolically (VCY). -/
import Derived.Shelf.SlicesG.Cmp
import Derived.KernelRfl
import Derived.Test.YtejhgipllmjhfaaProg
/- A contract of the library, laid at the program: the table of numbers, and that the bodies are those that the contract speaks of. -/
set_option maxRecDepth 100000
namespace Go.Sx.T
open Go Go.Proofs Go.Shelf
def renC5 : Ren where
  f := fun x => match x with | 5 => 42 | 7 => 67 | n => n
  t := fun x => match x with | 22 => 3 | 3 => 3 | 4 => 4 | n => n
  g := fun n => n
theorem laysC5 : SlLaysC2.n5 Try.prog renC5 where
  mixed := by kernel_rfl
  f5 := ⟨ "cmp.Compare[int]", of_decide_eq_true (by kernel_rfl), Eq.trans Try.func42 (congrArg some (by kernel_rfl))⟩
  f7 := ⟨ "cmp.isNaN[int]", of_decide_eq_true (by kernel_rfl), Eq.trans Try.func67 (congrArg some (by kernel_rfl))⟩
  t3 := Try.underlying3
  a3 := Try.isAgg3
  z3 := Try.sizeOf3
  v3 := Try.zeroValue3
  t4 := Try.underlying4
  a4 := Try.isAgg4
  z4 := Try.sizeOf4
  v4 := Try.zeroValue4
  t22 := Try.underlying3
  a22 := Try.isAgg3
  z22 := Try.sizeOf3
  v22 := Try.zeroValue3
end Go.Sx.T
