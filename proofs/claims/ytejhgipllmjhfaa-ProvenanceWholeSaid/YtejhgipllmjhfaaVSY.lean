/- Contracts of functions of the program, each proved by running its code symbolically (VSY). -/
import Derived.Shelf.Sort.Plain
import Derived.KernelRfl
import Derived.Test.YtejhgipllmjhfaaProg
/- A contract of the library, laid at the program: the table of numbers, and that the bodies are those that the contract speaks of. -/
set_option maxRecDepth 100000
namespace Go.Sx.T
open Go Go.Proofs Go.Shelf
def ren189 : Ren where
  f := fun x => match x with | 189 => 55 | 125 => 71 | 257 => 73 | 128 => 84 | 129 => 85 | 294 => 86 | 295 => 87 | 296 => 88 | 297 => 89 | 298 => 90 | 299 => 91 | 216 => 58 | 300 => 92 | 301 => 93 | 328 => 101 | 329 => 97 | 330 => 98 | 331 => 102 | 332 => 103 | 215 => 67 | 343 => 105 | n => n
  t := fun x => match x with | 28 => 40 | 3 => 3 | 46 => 72 | 0 => 0 | 51 => 90 | 53 => 92 | 4 => 4 | 183 => 84 | 182 => 83 | 131 => 50 | 5 => 5 | 9 => 9 | 218 => 99 | 222 => 103 | 228 => 107 | 229 => 108 | n => n
  g := fun n => n
theorem lays189 : Lays.n189 Try.prog ren189 where
  mixed := by kernel_rfl
  f125 := Eq.trans Try.func71 (congrArg some (by kernel_rfl))
  f128 := Eq.trans Try.func84 (congrArg some (by kernel_rfl))
  f129 := Eq.trans Try.func85 (congrArg some (by kernel_rfl))
  f189 := Eq.trans Try.func55 (congrArg some (by kernel_rfl))
  f215 := Eq.trans Try.func67 (congrArg some (by kernel_rfl))
  f216 := Eq.trans Try.func58 (congrArg some (by kernel_rfl))
  f257 := Eq.trans Try.func73 (congrArg some (by kernel_rfl))
  f294 := Eq.trans Try.func86 (congrArg some (by kernel_rfl))
  f295 := Eq.trans Try.func87 (congrArg some (by kernel_rfl))
  f296 := Eq.trans Try.func88 (congrArg some (by kernel_rfl))
  f297 := Eq.trans Try.func89 (congrArg some (by kernel_rfl))
  f298 := Eq.trans Try.func90 (congrArg some (by kernel_rfl))
  f299 := Eq.trans Try.func91 (congrArg some (by kernel_rfl))
  f300 := Eq.trans Try.func92 (congrArg some (by kernel_rfl))
  f301 := Eq.trans Try.func93 (congrArg some (by kernel_rfl))
  f328 := Eq.trans Try.func101 (congrArg some (by kernel_rfl))
  f329 := Eq.trans Try.func97 (congrArg some (by kernel_rfl))
  f330 := Eq.trans Try.func98 (congrArg some (by kernel_rfl))
  f331 := Eq.trans Try.func102 (congrArg some (by kernel_rfl))
  f332 := Eq.trans Try.func103 (congrArg some (by kernel_rfl))
  f343 := Eq.trans Try.func105 (congrArg some (by kernel_rfl))
  t0 := Try.underlying0
  a0 := Try.isAgg0
  z0 := Try.sizeOf0
  v0 := Try.zeroValue0
  t3 := Try.underlying3
  a3 := Try.isAgg3
  z3 := Try.sizeOf3
  v3 := Try.zeroValue3
  t4 := Try.underlying4
  a4 := Try.isAgg4
  z4 := Try.sizeOf4
  v4 := Try.zeroValue4
  t5 := Try.underlying5
  a5 := Try.isAgg5
  z5 := Try.sizeOf5
  v5 := Try.zeroValue5
  t9 := Try.underlying9
  a9 := Try.isAgg9
  z9 := Try.sizeOf9
  v9 := Try.zeroValue9
  t28 := Try.underlying40
  a28 := Try.isAgg40
  z28 := Try.sizeOf40
  v28 := Try.zeroValue40
  t46 := Try.underlying72
  a46 := Try.isAgg72
  z46 := Try.sizeOf72
  v46 := Try.zeroValue72
  t51 := Try.underlying90
  a51 := Try.isAgg90
  z51 := Try.sizeOf90
  v51 := Try.zeroValue90
  t53 := Try.underlying92
  a53 := Try.isAgg92
  z53 := Try.sizeOf92
  v53 := Try.zeroValue92
  t131 := Try.underlying50
  a131 := Try.isAgg50
  z131 := Try.sizeOf50
  v131 := Try.zeroValue50
  t182 := Try.underlying83
  a182 := Try.isAgg83
  z182 := Try.sizeOf83
  v182 := Try.zeroValue83
  t183 := Try.underlying84
  a183 := Try.isAgg84
  z183 := Try.sizeOf84
  v183 := Try.zeroValue84
  t218 := Try.underlying99
  a218 := Try.isAgg99
  z218 := Try.sizeOf99
  v218 := Try.zeroValue99
  t222 := Try.underlying103
  a222 := Try.isAgg103
  z222 := Try.sizeOf103
  v222 := Try.zeroValue103
  t228 := Try.underlying107
  a228 := Try.isAgg107
  z228 := Try.sizeOf107
  v228 := Try.zeroValue107
  t229 := Try.underlying108
  a229 := Try.isAgg108
  z229 := Try.sizeOf108
  v229 := Try.zeroValue108
end Go.Sx.T
