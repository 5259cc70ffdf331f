/- Contracts of functions of the program, each proved by running its code symbolically (CY). -/
import Derived.Shelf.Sort.Plain
import Derived.KernelRfl
import Derived.Test.YteecckjnbeambaaProg
/- A contract of the library, laid at the program: the table of numbers, and that the bodies are those that the contract speaks of. -/
set_option maxRecDepth 100000
namespace Go.Sx.T
open Go Go.Proofs Go.Shelf
def ren189 : Ren where
  f := fun x => match x with | 189 => 43 | 125 => 53 | 257 => 52 | 128 => 67 | 129 => 68 | 294 => 59 | 295 => 60 | 296 => 61 | 297 => 62 | 298 => 63 | 299 => 64 | 216 => 49 | 300 => 65 | 301 => 66 | 328 => 71 | 329 => 72 | 330 => 73 | 331 => 74 | 332 => 75 | 215 => 58 | 343 => 76 | n => n
  t := fun x => match x with | 28 => 40 | 3 => 3 | 46 => 86 | 0 => 0 | 51 => 97 | 53 => 99 | 4 => 4 | 183 => 91 | 182 => 90 | 131 => 81 | 5 => 5 | 9 => 9 | 218 => 102 | 222 => 106 | 228 => 108 | 229 => 109 | n => n
  g := fun n => n
theorem lays189 : Lays.n189 Try.prog ren189 where
  mixed := by kernel_rfl
  f125 := Eq.trans Try.func53 (congrArg some (by kernel_rfl))
  f128 := Eq.trans Try.func67 (congrArg some (by kernel_rfl))
  f129 := Eq.trans Try.func68 (congrArg some (by kernel_rfl))
  f189 := Eq.trans Try.func43 (congrArg some (by kernel_rfl))
  f215 := Eq.trans Try.func58 (congrArg some (by kernel_rfl))
  f216 := Eq.trans Try.func49 (congrArg some (by kernel_rfl))
  f257 := Eq.trans Try.func52 (congrArg some (by kernel_rfl))
  f294 := Eq.trans Try.func59 (congrArg some (by kernel_rfl))
  f295 := Eq.trans Try.func60 (congrArg some (by kernel_rfl))
  f296 := Eq.trans Try.func61 (congrArg some (by kernel_rfl))
  f297 := Eq.trans Try.func62 (congrArg some (by kernel_rfl))
  f298 := Eq.trans Try.func63 (congrArg some (by kernel_rfl))
  f299 := Eq.trans Try.func64 (congrArg some (by kernel_rfl))
  f300 := Eq.trans Try.func65 (congrArg some (by kernel_rfl))
  f301 := Eq.trans Try.func66 (congrArg some (by kernel_rfl))
  f328 := Eq.trans Try.func71 (congrArg some (by kernel_rfl))
  f329 := Eq.trans Try.func72 (congrArg some (by kernel_rfl))
  f330 := Eq.trans Try.func73 (congrArg some (by kernel_rfl))
  f331 := Eq.trans Try.func74 (congrArg some (by kernel_rfl))
  f332 := Eq.trans Try.func75 (congrArg some (by kernel_rfl))
  f343 := Eq.trans Try.func76 (congrArg some (by kernel_rfl))
  t0 := Try.underlying0
  a0 := Try.isAgg0
  z0 := Try.sizeOf0
  v0 := Try.zeroValue0
  t3 := Try.underlying3
  a3 := Try.isAgg3
  z3 := Try.sizeOf3
  v3 := Try.zeroValue3
  t4 := Try.underlying4
  a4 := Try.isAgg4
  z4 := Try.sizeOf4
  v4 := Try.zeroValue4
  t5 := Try.underlying5
  a5 := Try.isAgg5
  z5 := Try.sizeOf5
  v5 := Try.zeroValue5
  t9 := Try.underlying9
  a9 := Try.isAgg9
  z9 := Try.sizeOf9
  v9 := Try.zeroValue9
  t28 := Try.underlying40
  a28 := Try.isAgg40
  z28 := Try.sizeOf40
  v28 := Try.zeroValue40
  t46 := Try.underlying86
  a46 := Try.isAgg86
  z46 := Try.sizeOf86
  v46 := Try.zeroValue86
  t51 := Try.underlying97
  a51 := Try.isAgg97
  z51 := Try.sizeOf97
  v51 := Try.zeroValue97
  t53 := Try.underlying99
  a53 := Try.isAgg99
  z53 := Try.sizeOf99
  v53 := Try.zeroValue99
  t131 := Try.underlying81
  a131 := Try.isAgg81
  z131 := Try.sizeOf81
  v131 := Try.zeroValue81
  t182 := Try.underlying90
  a182 := Try.isAgg90
  z182 := Try.sizeOf90
  v182 := Try.zeroValue90
  t183 := Try.underlying91
  a183 := Try.isAgg91
  z183 := Try.sizeOf91
  v183 := Try.zeroValue91
  t218 := Try.underlying102
  a218 := Try.isAgg102
  z218 := Try.sizeOf102
  v218 := Try.zeroValue102
  t222 := Try.underlying106
  a222 := Try.isAgg106
  z222 := Try.sizeOf106
  v222 := Try.zeroValue106
  t228 := Try.underlying108
  a228 := Try.isAgg108
  z228 := Try.sizeOf108
  v228 := Try.zeroValue108
  t229 := Try.underlying109
  a229 := Try.isAgg109
  z229 := Try.sizeOf109
  v229 := Try.zeroValue109
end Go.Sx.T
