/- Contracts of functions of the program, each proved by running its code symbolically (QSY). -/
import Derived.Shelf.SlIterI.Sorted
import Derived.KernelRfl
import Derived.Test.YtepkgkdbnoiieaaProg
/- A contract of the library, laid at the program: the table of numbers, and that the bodies are those that the contract speaks of. -/
set_option maxRecDepth 100000
namespace Go.Sx.T
open Go Go.Proofs Go.Shelf
def renS : Ren where
  f := fun x => match x with | 6 => 31 | 8 => 52 | 9 => 53 | 11 => 65 | 13 => 67 | 12 => 66 | 23 => 79 | 24 => 80 | 14 => 71 | 15 => 72 | 16 => 73 | 17 => 74 | 18 => 75 | 19 => 76 | 20 => 56 | 21 => 77 | 22 => 78 | 25 => 82 | 26 => 83 | 27 => 84 | 28 => 85 | 29 => 86 | 30 => 68 | 31 => 87 | n => n
  t := fun x => match x with | 26 => 3 | 28 => 45 | 24 => 22 | 0 => 0 | 3 => 3 | 37 => 71 | 48 => 85 | 50 => 87 | 4 => 4 | 40 => 79 | 39 => 78 | 45 => 60 | 5 => 5 | 9 => 9 | 51 => 88 | 55 => 92 | 57 => 94 | 58 => 95 | 33 => 59 | n => n
  g := fun n => n
theorem laysS : SlLaysZI.n6 Try.prog renS where
  mixed := by kernel_rfl
  f6 := ⟨ "slices.Sorted[int]", of_decide_eq_true (by kernel_rfl), Eq.trans Try.func31 (congrArg some (by kernel_rfl))⟩
  f8 := ⟨ "slices.Collect[int]", of_decide_eq_true (by kernel_rfl), Eq.trans Try.func52 (congrArg some (by kernel_rfl))⟩
  f11 := ⟨ "slices.AppendSeq[[]int,int]", of_decide_eq_true (by kernel_rfl), Eq.trans Try.func65 (congrArg some (by kernel_rfl))⟩
  t0 := Try.underlying0
  a0 := Try.isAgg0
  z0 := Try.sizeOf0
  v0 := Try.zeroValue0
  t24 := Try.underlying22
  a24 := Try.isAgg22
  z24 := Try.sizeOf22
  v24 := Try.zeroValue22
  t26 := Try.underlying3
  a26 := Try.isAgg3
  z26 := Try.sizeOf3
  v26 := Try.zeroValue3
  t28 := Try.underlying45
  a28 := Try.isAgg45
  z28 := Try.sizeOf45
  v28 := Try.zeroValue45
  i26 := by kernel_rfl
end Go.Sx.T
