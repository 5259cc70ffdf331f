/- Contracts of functions of the program, each proved by running its code symbolically (TY). -/
import Derived.Shelf.Sort.Plain
import Derived.KernelRfl
import Derived.Test.YtjkjagbpmcgifaaProg
/- A contract of the library, laid at the program: the table of numbers, and that the bodies are those that the contract speaks of. -/
set_option maxRecDepth 100000
namespace Go.Sx.T
open Go Go.Proofs Go.Shelf
def ren189 : Ren where
  f := fun x => match x with | 189 => 50 | 125 => 52 | 257 => 51 | 128 => 62 | 129 => 63 | 294 => 53 | 295 => 54 | 296 => 55 | 297 => 56 | 298 => 57 | 299 => 58 | 216 => 59 | 300 => 60 | 301 => 61 | 328 => 64 | 329 => 65 | 330 => 66 | 331 => 67 | 332 => 68 | 215 => 69 | 343 => 70 | n => n
  t := fun x => match x with | 28 => 57 | 3 => 3 | 46 => 69 | 0 => 0 | 51 => 79 | 53 => 81 | 4 => 4 | 183 => 72 | 182 => 71 | 131 => 33 | 5 => 5 | 9 => 9 | 218 => 82 | 222 => 86 | 228 => 89 | 229 => 90 | n => n
  g := fun n => n
theorem lays189 : Lays.n189 Try.prog ren189 where
  mixed := by kernel_rfl
  f125 := Eq.trans Try.func52 (congrArg some (by kernel_rfl))
  f128 := Eq.trans Try.func62 (congrArg some (by kernel_rfl))
  f129 := Eq.trans Try.func63 (congrArg some (by kernel_rfl))
  f189 := Eq.trans Try.func50 (congrArg some (by kernel_rfl))
  f215 := Eq.trans Try.func69 (congrArg some (by kernel_rfl))
  f216 := Eq.trans Try.func59 (congrArg some (by kernel_rfl))
  f257 := Eq.trans Try.func51 (congrArg some (by kernel_rfl))
  f294 := Eq.trans Try.func53 (congrArg some (by kernel_rfl))
  f295 := Eq.trans Try.func54 (congrArg some (by kernel_rfl))
  f296 := Eq.trans Try.func55 (congrArg some (by kernel_rfl))
  f297 := Eq.trans Try.func56 (congrArg some (by kernel_rfl))
  f298 := Eq.trans Try.func57 (congrArg some (by kernel_rfl))
  f299 := Eq.trans Try.func58 (congrArg some (by kernel_rfl))
  f300 := Eq.trans Try.func60 (congrArg some (by kernel_rfl))
  f301 := Eq.trans Try.func61 (congrArg some (by kernel_rfl))
  f328 := Eq.trans Try.func64 (congrArg some (by kernel_rfl))
  f329 := Eq.trans Try.func65 (congrArg some (by kernel_rfl))
  f330 := Eq.trans Try.func66 (congrArg some (by kernel_rfl))
  f331 := Eq.trans Try.func67 (congrArg some (by kernel_rfl))
  f332 := Eq.trans Try.func68 (congrArg some (by kernel_rfl))
  f343 := Eq.trans Try.func70 (congrArg some (by kernel_rfl))
  t0 := Try.underlying0
  a0 := Try.isAgg0
  z0 := Try.sizeOf0
  v0 := Try.zeroValue0
  t3 := Try.underlying3
  a3 := Try.isAgg3
  z3 := Try.sizeOf3
  v3 := Try.zeroValue3
  t4 := Try.underlying4
  a4 := Try.isAgg4
  z4 := Try.sizeOf4
  v4 := Try.zeroValue4
  t5 := Try.underlying5
  a5 := Try.isAgg5
  z5 := Try.sizeOf5
  v5 := Try.zeroValue5
  t9 := Try.underlying9
  a9 := Try.isAgg9
  z9 := Try.sizeOf9
  v9 := Try.zeroValue9
  t28 := Try.underlying57
  a28 := Try.isAgg57
  z28 := Try.sizeOf57
  v28 := Try.zeroValue57
  t46 := Try.underlying69
  a46 := Try.isAgg69
  z46 := Try.sizeOf69
  v46 := Try.zeroValue69
  t51 := Try.underlying79
  a51 := Try.isAgg79
  z51 := Try.sizeOf79
  v51 := Try.zeroValue79
  t53 := Try.underlying81
  a53 := Try.isAgg81
  z53 := Try.sizeOf81
  v53 := Try.zeroValue81
  t131 := Try.underlying33
  a131 := Try.isAgg33
  z131 := Try.sizeOf33
  v131 := Try.zeroValue33
  t182 := Try.underlying71
  a182 := Try.isAgg71
  z182 := Try.sizeOf71
  v182 := Try.zeroValue71
  t183 := Try.underlying72
  a183 := Try.isAgg72
  z183 := Try.sizeOf72
  v183 := Try.zeroValue72
  t218 := Try.underlying82
  a218 := Try.isAgg82
  z218 := Try.sizeOf82
  v218 := Try.zeroValue82
  t222 := Try.underlying86
  a222 := Try.isAgg86
  z222 := Try.sizeOf86
  v222 := Try.zeroValue86
  t228 := Try.underlying89
  a228 := Try.isAgg89
  z228 := Try.sizeOf89
  v228 := Try.zeroValue89
  t229 := Try.underlying90
  a229 := Try.isAgg90
  z229 := Try.sizeOf90
  v229 := Try.zeroValue90
end Go.Sx.T
