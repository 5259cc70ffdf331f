/- Contracts of functions of the program, each proved by running its code symbolically (CSY). -/
import Derived.Shelf.SlIterI.Sorted
import Derived.KernelRfl
import Derived.Test.YteecckjnbeambaaProg
/- A contract of the library, laid at the program: the table of numbers, and that the bodies are those that the contract speaks of. -/
set_option maxRecDepth 100000
namespace Go.Sx.T
open Go Go.Proofs Go.Shelf
def renS : Ren where
  f := fun x => match x with | 6 => 46 | 8 => 56 | 9 => 43 | 11 => 70 | 13 => 53 | 12 => 52 | 23 => 67 | 24 => 68 | 14 => 59 | 15 => 60 | 16 => 61 | 17 => 62 | 18 => 63 | 19 => 64 | 20 => 49 | 21 => 65 | 22 => 66 | 25 => 71 | 26 => 72 | 27 => 73 | 28 => 74 | 29 => 75 | 30 => 58 | 31 => 76 | n => n
  t := fun x => match x with | 26 => 3 | 28 => 78 | 24 => 40 | 0 => 0 | 3 => 3 | 37 => 86 | 48 => 97 | 50 => 99 | 4 => 4 | 40 => 91 | 39 => 90 | 45 => 81 | 5 => 5 | 9 => 9 | 51 => 102 | 55 => 106 | 57 => 108 | 58 => 109 | 33 => 67 | n => n
  g := fun n => n
theorem laysS : SlLaysZI.n6 Try.prog renS where
  mixed := by kernel_rfl
  f6 := ⟨ "slices.Sorted[int]", of_decide_eq_true (by kernel_rfl), Eq.trans Try.func46 (congrArg some (by kernel_rfl))⟩
  f8 := ⟨ "slices.Collect[int]", of_decide_eq_true (by kernel_rfl), Eq.trans Try.func56 (congrArg some (by kernel_rfl))⟩
  f11 := ⟨ "slices.AppendSeq[[]int,int]", of_decide_eq_true (by kernel_rfl), Eq.trans Try.func70 (congrArg some (by kernel_rfl))⟩
  t0 := Try.underlying0
  a0 := Try.isAgg0
  z0 := Try.sizeOf0
  v0 := Try.zeroValue0
  t24 := Try.underlying40
  a24 := Try.isAgg40
  z24 := Try.sizeOf40
  v24 := Try.zeroValue40
  t26 := Try.underlying3
  a26 := Try.isAgg3
  z26 := Try.sizeOf3
  v26 := Try.zeroValue3
  t28 := Try.underlying78
  a28 := Try.isAgg78
  z28 := Try.sizeOf78
  v28 := Try.zeroValue78
  i26 := by kernel_rfl
end Go.Sx.T
