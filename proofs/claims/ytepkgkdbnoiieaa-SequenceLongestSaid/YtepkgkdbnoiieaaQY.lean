/- Contracts of functions of the program, each proved by running its code symbolically (QY). -/
import Derived.Shelf.Sort.Plain
import Derived.KernelRfl
import Derived.Test.YtepkgkdbnoiieaaProg
/- A contract of the library, laid at the program: the table of numbers, and that the bodies are those that the contract speaks of. -/
set_option maxRecDepth 100000
namespace Go.Sx.T
open Go Go.Proofs Go.Shelf
def ren189 : Ren where
  f := fun x => match x with | 189 => 53 | 125 => 67 | 257 => 66 | 128 => 79 | 129 => 80 | 294 => 71 | 295 => 72 | 296 => 73 | 297 => 74 | 298 => 75 | 299 => 76 | 216 => 56 | 300 => 77 | 301 => 78 | 328 => 82 | 329 => 83 | 330 => 84 | 331 => 85 | 332 => 86 | 215 => 68 | 343 => 87 | n => n
  t := fun x => match x with | 28 => 22 | 3 => 3 | 46 => 71 | 0 => 0 | 51 => 85 | 53 => 87 | 4 => 4 | 183 => 79 | 182 => 78 | 131 => 60 | 5 => 5 | 9 => 9 | 218 => 88 | 222 => 92 | 228 => 94 | 229 => 95 | n => n
  g := fun n => n
theorem lays189 : Lays.n189 Try.prog ren189 where
  mixed := by kernel_rfl
  f125 := Eq.trans Try.func67 (congrArg some (by kernel_rfl))
  f128 := Eq.trans Try.func79 (congrArg some (by kernel_rfl))
  f129 := Eq.trans Try.func80 (congrArg some (by kernel_rfl))
  f189 := Eq.trans Try.func53 (congrArg some (by kernel_rfl))
  f215 := Eq.trans Try.func68 (congrArg some (by kernel_rfl))
  f216 := Eq.trans Try.func56 (congrArg some (by kernel_rfl))
  f257 := Eq.trans Try.func66 (congrArg some (by kernel_rfl))
  f294 := Eq.trans Try.func71 (congrArg some (by kernel_rfl))
  f295 := Eq.trans Try.func72 (congrArg some (by kernel_rfl))
  f296 := Eq.trans Try.func73 (congrArg some (by kernel_rfl))
  f297 := Eq.trans Try.func74 (congrArg some (by kernel_rfl))
  f298 := Eq.trans Try.func75 (congrArg some (by kernel_rfl))
  f299 := Eq.trans Try.func76 (congrArg some (by kernel_rfl))
  f300 := Eq.trans Try.func77 (congrArg some (by kernel_rfl))
  f301 := Eq.trans Try.func78 (congrArg some (by kernel_rfl))
  f328 := Eq.trans Try.func82 (congrArg some (by kernel_rfl))
  f329 := Eq.trans Try.func83 (congrArg some (by kernel_rfl))
  f330 := Eq.trans Try.func84 (congrArg some (by kernel_rfl))
  f331 := Eq.trans Try.func85 (congrArg some (by kernel_rfl))
  f332 := Eq.trans Try.func86 (congrArg some (by kernel_rfl))
  f343 := Eq.trans Try.func87 (congrArg some (by kernel_rfl))
  t0 := Try.underlying0
  a0 := Try.isAgg0
  z0 := Try.sizeOf0
  v0 := Try.zeroValue0
  t3 := Try.underlying3
  a3 := Try.isAgg3
  z3 := Try.sizeOf3
  v3 := Try.zeroValue3
  t4 := Try.underlying4
  a4 := Try.isAgg4
  z4 := Try.sizeOf4
  v4 := Try.zeroValue4
  t5 := Try.underlying5
  a5 := Try.isAgg5
  z5 := Try.sizeOf5
  v5 := Try.zeroValue5
  t9 := Try.underlying9
  a9 := Try.isAgg9
  z9 := Try.sizeOf9
  v9 := Try.zeroValue9
  t28 := Try.underlying22
  a28 := Try.isAgg22
  z28 := Try.sizeOf22
  v28 := Try.zeroValue22
  t46 := Try.underlying71
  a46 := Try.isAgg71
  z46 := Try.sizeOf71
  v46 := Try.zeroValue71
  t51 := Try.underlying85
  a51 := Try.isAgg85
  z51 := Try.sizeOf85
  v51 := Try.zeroValue85
  t53 := Try.underlying87
  a53 := Try.isAgg87
  z53 := Try.sizeOf87
  v53 := Try.zeroValue87
  t131 := Try.underlying60
  a131 := Try.isAgg60
  z131 := Try.sizeOf60
  v131 := Try.zeroValue60
  t182 := Try.underlying78
  a182 := Try.isAgg78
  z182 := Try.sizeOf78
  v182 := Try.zeroValue78
  t183 := Try.underlying79
  a183 := Try.isAgg79
  z183 := Try.sizeOf79
  v183 := Try.zeroValue79
  t218 := Try.underlying88
  a218 := Try.isAgg88
  z218 := Try.sizeOf88
  v218 := Try.zeroValue88
  t222 := Try.underlying92
  a222 := Try.isAgg92
  z222 := Try.sizeOf92
  v222 := Try.zeroValue92
  t228 := Try.underlying94
  a228 := Try.isAgg94
  z228 := Try.sizeOf94
  v228 := Try.zeroValue94
  t229 := Try.underlying95
  a229 := Try.isAgg95
  z229 := Try.sizeOf95
  v229 := Try.zeroValue95
end Go.Sx.T
