/- Contracts of functions of the program, each proved by running its code symbolically (RFY). -/
import Derived.Shelf.SlSortCmp.NoneTotal
import Derived.KernelRfl
import Derived.Test.YtdiikneggikfkaaProg
/- A contract of the library, laid at the program: the table of numbers, and that the bodies are those that the contract speaks of. -/
set_option maxRecDepth 100000
namespace Go.Sx.T
open Go Go.Proofs Go.Shelf
def renF6 : Ren where
  f := fun x => match x with | 6 => 37 | 15 => 50 | 14 => 49 | 28 => 65 | 29 => 66 | 20 => 57 | 21 => 58 | 22 => 59 | 23 => 60 | 24 => 61 | 25 => 62 | 26 => 63 | 27 => 64 | 46 => 77 | 47 => 78 | 48 => 79 | 49 => 80 | 50 => 81 | 57 => 85 | n => n
  t := fun x => match x with | 22 => 41 | 24 => 3 | 25 => 63 | 3 => 3 | 39 => 75 | 0 => 0 | 53 => 88 | 55 => 90 | 4 => 4 | 46 => 81 | 45 => 80 | 50 => 85 | 5 => 5 | 9 => 9 | 66 => 98 | 70 => 102 | 76 => 106 | 77 => 25 | n => n
  g := fun n => n
theorem laysF6 : SlLaysF.n6 Try.prog renF6 where
  mixed := by kernel_rfl
  f6 := ⟨ "slices.SortFunc[[]int,int]", of_decide_eq_true (by kernel_rfl), Eq.trans Try.func37 (congrArg some (by kernel_rfl))⟩
  f14 := ⟨ "slices.pdqsortCmpFunc[int]", of_decide_eq_true (by kernel_rfl), Eq.trans Try.func49 (congrArg some (by kernel_rfl))⟩
  f15 := Eq.trans Try.func50 (congrArg some (by kernel_rfl))
  f20 := ⟨ "slices.insertionSortCmpFunc[int]", of_decide_eq_true (by kernel_rfl), Eq.trans Try.func57 (congrArg some (by kernel_rfl))⟩
  f21 := ⟨ "slices.heapSortCmpFunc[int]", of_decide_eq_true (by kernel_rfl), Eq.trans Try.func58 (congrArg some (by kernel_rfl))⟩
  f22 := ⟨ "slices.breakPatternsCmpFunc[int]", of_decide_eq_true (by kernel_rfl), Eq.trans Try.func59 (congrArg some (by kernel_rfl))⟩
  f23 := ⟨ "slices.choosePivotCmpFunc[int]", of_decide_eq_true (by kernel_rfl), Eq.trans Try.func60 (congrArg some (by kernel_rfl))⟩
  f24 := ⟨ "slices.reverseRangeCmpFunc[int]", of_decide_eq_true (by kernel_rfl), Eq.trans Try.func61 (congrArg some (by kernel_rfl))⟩
  f25 := ⟨ "slices.partialInsertionSortCmpFunc[int]", of_decide_eq_true (by kernel_rfl), Eq.trans Try.func62 (congrArg some (by kernel_rfl))⟩
  f26 := ⟨ "slices.partitionEqualCmpFunc[int]", of_decide_eq_true (by kernel_rfl), Eq.trans Try.func63 (congrArg some (by kernel_rfl))⟩
  f27 := ⟨ "slices.partitionCmpFunc[int]", of_decide_eq_true (by kernel_rfl), Eq.trans Try.func64 (congrArg some (by kernel_rfl))⟩
  f28 := Eq.trans Try.func65 (congrArg some (by kernel_rfl))
  f29 := Eq.trans Try.func66 (congrArg some (by kernel_rfl))
  f46 := ⟨ "slices.siftDownCmpFunc[int]", of_decide_eq_true (by kernel_rfl), Eq.trans Try.func77 (congrArg some (by kernel_rfl))⟩
  f47 := Eq.trans Try.func78 (congrArg some (by kernel_rfl))
  f48 := Eq.trans Try.func79 (congrArg some (by kernel_rfl))
  f49 := ⟨ "slices.medianAdjacentCmpFunc[int]", of_decide_eq_true (by kernel_rfl), Eq.trans Try.func80 (congrArg some (by kernel_rfl))⟩
  f50 := ⟨ "slices.medianCmpFunc[int]", of_decide_eq_true (by kernel_rfl), Eq.trans Try.func81 (congrArg some (by kernel_rfl))⟩
  f57 := ⟨ "slices.order2CmpFunc[int]", of_decide_eq_true (by kernel_rfl), Eq.trans Try.func85 (congrArg some (by kernel_rfl))⟩
  t0 := Try.underlying0
  a0 := Try.isAgg0
  z0 := Try.sizeOf0
  v0 := Try.zeroValue0
  t3 := Try.underlying3
  a3 := Try.isAgg3
  z3 := Try.sizeOf3
  v3 := Try.zeroValue3
  t4 := Try.underlying4
  a4 := Try.isAgg4
  z4 := Try.sizeOf4
  v4 := Try.zeroValue4
  t5 := Try.underlying5
  a5 := Try.isAgg5
  z5 := Try.sizeOf5
  v5 := Try.zeroValue5
  t9 := Try.underlying9
  a9 := Try.isAgg9
  z9 := Try.sizeOf9
  v9 := Try.zeroValue9
  t22 := Try.underlying41
  a22 := Try.isAgg41
  z22 := Try.sizeOf41
  v22 := Try.zeroValue41
  a24 := Try.isAgg3
  z24 := Try.sizeOf3
  t25 := Try.underlying63
  a25 := Try.isAgg63
  z25 := Try.sizeOf63
  v25 := Try.zeroValue63
  t39 := Try.underlying75
  a39 := Try.isAgg75
  z39 := Try.sizeOf75
  v39 := Try.zeroValue75
  t45 := Try.underlying80
  a45 := Try.isAgg80
  z45 := Try.sizeOf80
  v45 := Try.zeroValue80
  t46 := Try.underlying81
  a46 := Try.isAgg81
  z46 := Try.sizeOf81
  v46 := Try.zeroValue81
  t50 := Try.underlying85
  a50 := Try.isAgg85
  z50 := Try.sizeOf85
  v50 := Try.zeroValue85
  t53 := Try.underlying88
  a53 := Try.isAgg88
  z53 := Try.sizeOf88
  v53 := Try.zeroValue88
  t55 := Try.underlying90
  a55 := Try.isAgg90
  z55 := Try.sizeOf90
  v55 := Try.zeroValue90
  t66 := Try.underlying98
  a66 := Try.isAgg98
  z66 := Try.sizeOf98
  v66 := Try.zeroValue98
  t70 := Try.underlying102
  a70 := Try.isAgg102
  z70 := Try.sizeOf102
  v70 := Try.zeroValue102
  t76 := Try.underlying106
  a76 := Try.isAgg106
  z76 := Try.sizeOf106
  v76 := Try.zeroValue106
  t77 := Try.underlying25
  a77 := Try.isAgg25
  z77 := Try.sizeOf25
  v77 := Try.zeroValue25
end Go.Sx.T
