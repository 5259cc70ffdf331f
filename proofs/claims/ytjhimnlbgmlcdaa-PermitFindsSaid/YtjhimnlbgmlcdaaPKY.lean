/- Contracts of functions of the program, each proved by running its code symbolically (PKY). -/
import Derived.Shelf.SlIterI.Sorted
import Derived.KernelRfl
import Derived.Test.YtjhimnlbgmlcdaaProg
/- A contract of the library, laid at the program: the table of numbers, and that the bodies are those that the contract speaks of. -/
set_option maxRecDepth 100000
namespace Go.Sx.T
open Go Go.Proofs Go.Shelf
def renK : Ren where
  f := fun x => match x with | 7 => 48 | 10 => 53 | n => n
  t := fun x => match x with | 23 => 64 | 26 => 3 | 3 => 4 | 28 => 67 | 0 => 0 | 27 => 66 | 33 => 70 | 4 => 4 | n => n
  g := fun n => n
theorem laysK : SlLaysZI.n7 Try.prog renK where
  mixed := by kernel_rfl
  f7 := ⟨ "maps.Keys[map[int]bool,int,bool]", of_decide_eq_true (by kernel_rfl), Eq.trans Try.func48 (congrArg some (by kernel_rfl))⟩
  f10 := ⟨ "maps.Keys[map[int]bool,int,bool]$1", of_decide_eq_true (by kernel_rfl), Eq.trans Try.func53 (congrArg some (by kernel_rfl))⟩
  t0 := Try.underlying0
  a0 := Try.isAgg0
  z0 := Try.sizeOf0
  v0 := Try.zeroValue0
  t4 := Try.underlying4
  a4 := Try.isAgg4
  z4 := Try.sizeOf4
  v4 := Try.zeroValue4
  t23 := Try.underlying64
  a23 := Try.isAgg64
  z23 := Try.sizeOf64
  v23 := Try.zeroValue64
  t26 := Try.underlying3
  a26 := Try.isAgg3
  z26 := Try.sizeOf3
  v26 := Try.zeroValue3
  t27 := Try.underlying66
  a27 := Try.isAgg66
  z27 := Try.sizeOf66
  v27 := Try.zeroValue66
  t28 := Try.underlying67
  a28 := Try.isAgg67
  z28 := Try.sizeOf67
  v28 := Try.zeroValue67
  t33 := Try.underlying70
  a33 := Try.isAgg70
  z33 := Try.sizeOf70
  v33 := Try.zeroValue70
end Go.Sx.T
