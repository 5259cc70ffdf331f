/- Contracts of functions of the program, each proved by running its code symbolically (CKY). -/
import Derived.Shelf.SlIterI.Sorted
import Derived.KernelRfl
import Derived.Test.YteecckjnbeambaaProg
/- A contract of the library, laid at the program: the table of numbers, and that the bodies are those that the contract speaks of. -/
set_option maxRecDepth 100000
namespace Go.Sx.T
open Go Go.Proofs Go.Shelf
def renK : Ren where
  f := fun x => match x with | 7 => 47 | 10 => 57 | n => n
  t := fun x => match x with | 23 => 68 | 26 => 3 | 3 => 24 | 28 => 78 | 0 => 0 | 27 => 77 | 33 => 67 | 4 => 4 | n => n
  g := fun n => n
theorem laysK : SlLaysZI.n7 Try.prog renK where
  mixed := by kernel_rfl
  f7 := ⟨ "maps.Keys[map[int]archivum/api.Place,int,archivum/api.Place]", of_decide_eq_true (by kernel_rfl), Eq.trans Try.func47 (congrArg some (by kernel_rfl))⟩
  f10 := ⟨ "maps.Keys[map[int]archivum/api.Place,int,archivum/api.Place]$1", of_decide_eq_true (by kernel_rfl), Eq.trans Try.func57 (congrArg some (by kernel_rfl))⟩
  t0 := Try.underlying0
  a0 := Try.isAgg0
  z0 := Try.sizeOf0
  v0 := Try.zeroValue0
  t4 := Try.underlying4
  a4 := Try.isAgg4
  z4 := Try.sizeOf4
  v4 := Try.zeroValue4
  t23 := Try.underlying68
  a23 := Try.isAgg68
  z23 := Try.sizeOf68
  v23 := Try.zeroValue68
  t26 := Try.underlying3
  a26 := Try.isAgg3
  z26 := Try.sizeOf3
  v26 := Try.zeroValue3
  t27 := Try.underlying77
  a27 := Try.isAgg77
  z27 := Try.sizeOf77
  v27 := Try.zeroValue77
  t28 := Try.underlying78
  a28 := Try.isAgg78
  z28 := Try.sizeOf78
  v28 := Try.zeroValue78
  t33 := Try.underlying67
  a33 := Try.isAgg67
  z33 := Try.sizeOf67
  v33 := Try.zeroValue67
end Go.Sx.T
