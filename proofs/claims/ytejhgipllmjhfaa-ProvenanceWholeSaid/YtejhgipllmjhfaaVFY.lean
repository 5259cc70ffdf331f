/- Contracts of functions of the program, each proved by running its code symbolically (VFY). -/
import Derived.Shelf.SlSortCmp.NoneTotal
import Derived.KernelRfl
import Derived.Test.YtejhgipllmjhfaaProg
/- A contract of the library, laid at the program: the table of numbers, and that the bodies are those that the contract speaks of. -/
set_option maxRecDepth 100000
namespace Go.Sx.T
open Go Go.Proofs Go.Shelf
def renF6 : Ren where
  f := fun x => match x with | 6 => 48 | 15 => 71 | 14 => 70 | 28 => 84 | 29 => 85 | 20 => 76 | 21 => 77 | 22 => 78 | 23 => 79 | 24 => 80 | 25 => 81 | 26 => 82 | 27 => 83 | 46 => 96 | 47 => 97 | 48 => 98 | 49 => 99 | 50 => 100 | 57 => 104 | n => n
  t := fun x => match x with | 22 => 22 | 24 => 32 | 25 => 64 | 3 => 3 | 39 => 72 | 0 => 0 | 53 => 90 | 55 => 92 | 4 => 4 | 46 => 84 | 45 => 83 | 50 => 50 | 5 => 5 | 9 => 9 | 66 => 99 | 70 => 103 | 76 => 107 | 77 => 108 | n => n
  g := fun n => n
theorem laysF6 : SlLaysF0.n6 Try.prog renF6 where
  mixed := by kernel_rfl
  f6 := ⟨ "slices.SortFunc[[]archivum/api.Came,archivum/api.Came]", of_decide_eq_true (by kernel_rfl), Eq.trans Try.func48 (congrArg some (by kernel_rfl))⟩
  f14 := ⟨ "slices.pdqsortCmpFunc[archivum/api.Came]", of_decide_eq_true (by kernel_rfl), Eq.trans Try.func70 (congrArg some (by kernel_rfl))⟩
  f15 := Eq.trans Try.func71 (congrArg some (by kernel_rfl))
  f20 := ⟨ "slices.insertionSortCmpFunc[archivum/api.Came]", of_decide_eq_true (by kernel_rfl), Eq.trans Try.func76 (congrArg some (by kernel_rfl))⟩
  f21 := ⟨ "slices.heapSortCmpFunc[archivum/api.Came]", of_decide_eq_true (by kernel_rfl), Eq.trans Try.func77 (congrArg some (by kernel_rfl))⟩
  f22 := ⟨ "slices.breakPatternsCmpFunc[archivum/api.Came]", of_decide_eq_true (by kernel_rfl), Eq.trans Try.func78 (congrArg some (by kernel_rfl))⟩
  f23 := ⟨ "slices.choosePivotCmpFunc[archivum/api.Came]", of_decide_eq_true (by kernel_rfl), Eq.trans Try.func79 (congrArg some (by kernel_rfl))⟩
  f24 := ⟨ "slices.reverseRangeCmpFunc[archivum/api.Came]", of_decide_eq_true (by kernel_rfl), Eq.trans Try.func80 (congrArg some (by kernel_rfl))⟩
  f25 := ⟨ "slices.partialInsertionSortCmpFunc[archivum/api.Came]", of_decide_eq_true (by kernel_rfl), Eq.trans Try.func81 (congrArg some (by kernel_rfl))⟩
  f26 := ⟨ "slices.partitionEqualCmpFunc[archivum/api.Came]", of_decide_eq_true (by kernel_rfl), Eq.trans Try.func82 (congrArg some (by kernel_rfl))⟩
  f27 := ⟨ "slices.partitionCmpFunc[archivum/api.Came]", of_decide_eq_true (by kernel_rfl), Eq.trans Try.func83 (congrArg some (by kernel_rfl))⟩
  f28 := Eq.trans Try.func84 (congrArg some (by kernel_rfl))
  f29 := Eq.trans Try.func85 (congrArg some (by kernel_rfl))
  f46 := ⟨ "slices.siftDownCmpFunc[archivum/api.Came]", of_decide_eq_true (by kernel_rfl), Eq.trans Try.func96 (congrArg some (by kernel_rfl))⟩
  f47 := Eq.trans Try.func97 (congrArg some (by kernel_rfl))
  f48 := Eq.trans Try.func98 (congrArg some (by kernel_rfl))
  f49 := ⟨ "slices.medianAdjacentCmpFunc[archivum/api.Came]", of_decide_eq_true (by kernel_rfl), Eq.trans Try.func99 (congrArg some (by kernel_rfl))⟩
  f50 := ⟨ "slices.medianCmpFunc[archivum/api.Came]", of_decide_eq_true (by kernel_rfl), Eq.trans Try.func100 (congrArg some (by kernel_rfl))⟩
  f57 := ⟨ "slices.order2CmpFunc[archivum/api.Came]", of_decide_eq_true (by kernel_rfl), Eq.trans Try.func104 (congrArg some (by kernel_rfl))⟩
  t0 := Try.underlying0
  a0 := Try.isAgg0
  z0 := Try.sizeOf0
  v0 := Try.zeroValue0
  t3 := Try.underlying3
  a3 := Try.isAgg3
  z3 := Try.sizeOf3
  v3 := Try.zeroValue3
  t4 := Try.underlying4
  a4 := Try.isAgg4
  z4 := Try.sizeOf4
  v4 := Try.zeroValue4
  t5 := Try.underlying5
  a5 := Try.isAgg5
  z5 := Try.sizeOf5
  v5 := Try.zeroValue5
  t9 := Try.underlying9
  a9 := Try.isAgg9
  z9 := Try.sizeOf9
  v9 := Try.zeroValue9
  t22 := Try.underlying22
  a22 := Try.isAgg22
  z22 := Try.sizeOf22
  v22 := Try.zeroValue22
  t25 := Try.underlying64
  a25 := Try.isAgg64
  z25 := Try.sizeOf64
  v25 := Try.zeroValue64
  t39 := Try.underlying72
  a39 := Try.isAgg72
  z39 := Try.sizeOf72
  v39 := Try.zeroValue72
  t45 := Try.underlying83
  a45 := Try.isAgg83
  z45 := Try.sizeOf83
  v45 := Try.zeroValue83
  t46 := Try.underlying84
  a46 := Try.isAgg84
  z46 := Try.sizeOf84
  v46 := Try.zeroValue84
  t50 := Try.underlying50
  a50 := Try.isAgg50
  z50 := Try.sizeOf50
  v50 := Try.zeroValue50
  t53 := Try.underlying90
  a53 := Try.isAgg90
  z53 := Try.sizeOf90
  v53 := Try.zeroValue90
  t55 := Try.underlying92
  a55 := Try.isAgg92
  z55 := Try.sizeOf92
  v55 := Try.zeroValue92
  t66 := Try.underlying99
  a66 := Try.isAgg99
  z66 := Try.sizeOf99
  v66 := Try.zeroValue99
  t70 := Try.underlying103
  a70 := Try.isAgg103
  z70 := Try.sizeOf103
  v70 := Try.zeroValue103
  t76 := Try.underlying107
  a76 := Try.isAgg107
  z76 := Try.sizeOf107
  v76 := Try.zeroValue107
  t77 := Try.underlying108
  a77 := Try.isAgg108
  z77 := Try.sizeOf108
  v77 := Try.zeroValue108
end Go.Sx.T
