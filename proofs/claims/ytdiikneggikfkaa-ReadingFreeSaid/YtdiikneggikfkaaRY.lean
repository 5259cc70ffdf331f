/- Contracts of functions of the program, each proved by running its code symbolically (RY). -/
import Derived.Shelf.Sort.Plain
import Derived.KernelRfl
import Derived.Test.YtdiikneggikfkaaProg
/- A contract of the library, laid at the program: the table of numbers, and that the bodies are those that the contract speaks of. -/
set_option maxRecDepth 100000
namespace Go.Sx.T
open Go Go.Proofs Go.Shelf
def ren189 : Ren where
  f := fun x => match x with | 189 => 44 | 125 => 50 | 257 => 52 | 128 => 65 | 129 => 66 | 294 => 67 | 295 => 68 | 296 => 69 | 297 => 70 | 298 => 71 | 299 => 72 | 216 => 73 | 300 => 74 | 301 => 75 | 328 => 82 | 329 => 78 | 330 => 79 | 331 => 83 | 332 => 84 | 215 => 51 | 343 => 86 | n => n
  t := fun x => match x with | 28 => 41 | 3 => 3 | 46 => 75 | 0 => 0 | 51 => 88 | 53 => 90 | 4 => 4 | 183 => 81 | 182 => 80 | 131 => 85 | 5 => 5 | 9 => 9 | 218 => 98 | 222 => 102 | 228 => 106 | 229 => 25 | n => n
  g := fun n => n
theorem lays189 : Lays.n189 Try.prog ren189 where
  mixed := by kernel_rfl
  f125 := Eq.trans Try.func50 (congrArg some (by kernel_rfl))
  f128 := Eq.trans Try.func65 (congrArg some (by kernel_rfl))
  f129 := Eq.trans Try.func66 (congrArg some (by kernel_rfl))
  f189 := Eq.trans Try.func44 (congrArg some (by kernel_rfl))
  f215 := Eq.trans Try.func51 (congrArg some (by kernel_rfl))
  f216 := Eq.trans Try.func73 (congrArg some (by kernel_rfl))
  f257 := Eq.trans Try.func52 (congrArg some (by kernel_rfl))
  f294 := Eq.trans Try.func67 (congrArg some (by kernel_rfl))
  f295 := Eq.trans Try.func68 (congrArg some (by kernel_rfl))
  f296 := Eq.trans Try.func69 (congrArg some (by kernel_rfl))
  f297 := Eq.trans Try.func70 (congrArg some (by kernel_rfl))
  f298 := Eq.trans Try.func71 (congrArg some (by kernel_rfl))
  f299 := Eq.trans Try.func72 (congrArg some (by kernel_rfl))
  f300 := Eq.trans Try.func74 (congrArg some (by kernel_rfl))
  f301 := Eq.trans Try.func75 (congrArg some (by kernel_rfl))
  f328 := Eq.trans Try.func82 (congrArg some (by kernel_rfl))
  f329 := Eq.trans Try.func78 (congrArg some (by kernel_rfl))
  f330 := Eq.trans Try.func79 (congrArg some (by kernel_rfl))
  f331 := Eq.trans Try.func83 (congrArg some (by kernel_rfl))
  f332 := Eq.trans Try.func84 (congrArg some (by kernel_rfl))
  f343 := Eq.trans Try.func86 (congrArg some (by kernel_rfl))
  t0 := Try.underlying0
  a0 := Try.isAgg0
  z0 := Try.sizeOf0
  v0 := Try.zeroValue0
  t3 := Try.underlying3
  a3 := Try.isAgg3
  z3 := Try.sizeOf3
  v3 := Try.zeroValue3
  t4 := Try.underlying4
  a4 := Try.isAgg4
  z4 := Try.sizeOf4
  v4 := Try.zeroValue4
  t5 := Try.underlying5
  a5 := Try.isAgg5
  z5 := Try.sizeOf5
  v5 := Try.zeroValue5
  t9 := Try.underlying9
  a9 := Try.isAgg9
  z9 := Try.sizeOf9
  v9 := Try.zeroValue9
  t28 := Try.underlying41
  a28 := Try.isAgg41
  z28 := Try.sizeOf41
  v28 := Try.zeroValue41
  t46 := Try.underlying75
  a46 := Try.isAgg75
  z46 := Try.sizeOf75
  v46 := Try.zeroValue75
  t51 := Try.underlying88
  a51 := Try.isAgg88
  z51 := Try.sizeOf88
  v51 := Try.zeroValue88
  t53 := Try.underlying90
  a53 := Try.isAgg90
  z53 := Try.sizeOf90
  v53 := Try.zeroValue90
  t131 := Try.underlying85
  a131 := Try.isAgg85
  z131 := Try.sizeOf85
  v131 := Try.zeroValue85
  t182 := Try.underlying80
  a182 := Try.isAgg80
  z182 := Try.sizeOf80
  v182 := Try.zeroValue80
  t183 := Try.underlying81
  a183 := Try.isAgg81
  z183 := Try.sizeOf81
  v183 := Try.zeroValue81
  t218 := Try.underlying98
  a218 := Try.isAgg98
  z218 := Try.sizeOf98
  v218 := Try.zeroValue98
  t222 := Try.underlying102
  a222 := Try.isAgg102
  z222 := Try.sizeOf102
  v222 := Try.zeroValue102
  t228 := Try.underlying106
  a228 := Try.isAgg106
  z228 := Try.sizeOf106
  v228 := Try.zeroValue106
  t229 := Try.underlying25
  a229 := Try.isAgg25
  z229 := Try.sizeOf25
  v229 := Try.zeroValue25
end Go.Sx.T
