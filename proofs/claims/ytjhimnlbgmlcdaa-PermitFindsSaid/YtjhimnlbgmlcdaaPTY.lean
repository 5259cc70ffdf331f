/- Contracts of functions of the program, each proved by running its code symbolically (PTY). -/
import Derived.Shelf.SlIterI.Sorted
import Derived.KernelRfl
import Derived.Test.YtjhimnlbgmlcdaaProg
/- A contract of the library, laid at the program: the table of numbers, and that the bodies are those that the contract speaks of. -/
set_option maxRecDepth 100000
namespace Go.Sx.T
open Go Go.Proofs Go.Shelf
def renS : Ren where
  f := fun x => match x with | 6 => 47 | 8 => 51 | 9 => 52 | 11 => 54 | 13 => 56 | 12 => 55 | 23 => 66 | 24 => 67 | 14 => 57 | 15 => 58 | 16 => 59 | 17 => 60 | 18 => 61 | 19 => 62 | 20 => 63 | 21 => 64 | 22 => 65 | 25 => 68 | 26 => 69 | 27 => 70 | 28 => 71 | 29 => 72 | 30 => 73 | 31 => 74 | n => n
  t := fun x => match x with | 26 => 3 | 28 => 67 | 24 => 23 | 0 => 0 | 3 => 3 | 37 => 75 | 48 => 85 | 50 => 87 | 4 => 4 | 40 => 78 | 39 => 77 | 45 => 44 | 5 => 5 | 9 => 9 | 51 => 88 | 55 => 92 | 57 => 94 | 58 => 95 | 33 => 70 | n => n
  g := fun n => n
theorem laysS : SlLaysZI.n6 Try.prog renS where
  mixed := by kernel_rfl
  f6 := ⟨ "slices.Sorted[int]", of_decide_eq_true (by kernel_rfl), Eq.trans Try.func47 (congrArg some (by kernel_rfl))⟩
  f8 := ⟨ "slices.Collect[int]", of_decide_eq_true (by kernel_rfl), Eq.trans Try.func51 (congrArg some (by kernel_rfl))⟩
  f11 := ⟨ "slices.AppendSeq[[]int,int]", of_decide_eq_true (by kernel_rfl), Eq.trans Try.func54 (congrArg some (by kernel_rfl))⟩
  t0 := Try.underlying0
  a0 := Try.isAgg0
  z0 := Try.sizeOf0
  v0 := Try.zeroValue0
  t24 := Try.underlying23
  a24 := Try.isAgg23
  z24 := Try.sizeOf23
  v24 := Try.zeroValue23
  t26 := Try.underlying3
  a26 := Try.isAgg3
  z26 := Try.sizeOf3
  v26 := Try.zeroValue3
  t28 := Try.underlying67
  a28 := Try.isAgg67
  z28 := Try.sizeOf67
  v28 := Try.zeroValue67
  i26 := by kernel_rfl
end Go.Sx.T
