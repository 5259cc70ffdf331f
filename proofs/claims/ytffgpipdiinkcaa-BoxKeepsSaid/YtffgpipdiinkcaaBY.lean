/- Contracts of functions of the program, each proved by running its code symbolically (BY). -/
import Derived.Shelf.Sort.Plain
import Derived.KernelRfl
import Derived.Test.YtffgpipdiinkcaaProg
/- A contract of the library, laid at the program: the table of numbers, and that the bodies are those that the contract speaks of. -/
set_option maxRecDepth 100000
namespace Go.Sx.T
open Go Go.Proofs Go.Shelf
def ren189 : Ren where
  f := fun x => match x with | 189 => 47 | 125 => 59 | 257 => 58 | 128 => 71 | 129 => 72 | 294 => 62 | 295 => 63 | 296 => 64 | 297 => 65 | 298 => 66 | 299 => 67 | 216 => 68 | 300 => 69 | 301 => 70 | 328 => 74 | 329 => 75 | 330 => 76 | 331 => 77 | 332 => 78 | 215 => 79 | 343 => 81 | n => n
  t := fun x => match x with | 28 => 54 | 3 => 3 | 46 => 83 | 0 => 0 | 51 => 96 | 53 => 98 | 4 => 4 | 183 => 88 | 182 => 87 | 131 => 93 | 5 => 5 | 9 => 9 | 218 => 99 | 222 => 103 | 228 => 107 | 229 => 62 | n => n
  g := fun n => n
theorem lays189 : Lays.n189 Try.prog ren189 where
  mixed := by kernel_rfl
  f125 := Eq.trans Try.func59 (congrArg some (by kernel_rfl))
  f128 := Eq.trans Try.func71 (congrArg some (by kernel_rfl))
  f129 := Eq.trans Try.func72 (congrArg some (by kernel_rfl))
  f189 := Eq.trans Try.func47 (congrArg some (by kernel_rfl))
  f215 := Eq.trans Try.func79 (congrArg some (by kernel_rfl))
  f216 := Eq.trans Try.func68 (congrArg some (by kernel_rfl))
  f257 := Eq.trans Try.func58 (congrArg some (by kernel_rfl))
  f294 := Eq.trans Try.func62 (congrArg some (by kernel_rfl))
  f295 := Eq.trans Try.func63 (congrArg some (by kernel_rfl))
  f296 := Eq.trans Try.func64 (congrArg some (by kernel_rfl))
  f297 := Eq.trans Try.func65 (congrArg some (by kernel_rfl))
  f298 := Eq.trans Try.func66 (congrArg some (by kernel_rfl))
  f299 := Eq.trans Try.func67 (congrArg some (by kernel_rfl))
  f300 := Eq.trans Try.func69 (congrArg some (by kernel_rfl))
  f301 := Eq.trans Try.func70 (congrArg some (by kernel_rfl))
  f328 := Eq.trans Try.func74 (congrArg some (by kernel_rfl))
  f329 := Eq.trans Try.func75 (congrArg some (by kernel_rfl))
  f330 := Eq.trans Try.func76 (congrArg some (by kernel_rfl))
  f331 := Eq.trans Try.func77 (congrArg some (by kernel_rfl))
  f332 := Eq.trans Try.func78 (congrArg some (by kernel_rfl))
  f343 := Eq.trans Try.func81 (congrArg some (by kernel_rfl))
  t0 := Try.underlying0
  a0 := Try.isAgg0
  z0 := Try.sizeOf0
  v0 := Try.zeroValue0
  t3 := Try.underlying3
  a3 := Try.isAgg3
  z3 := Try.sizeOf3
  v3 := Try.zeroValue3
  t4 := Try.underlying4
  a4 := Try.isAgg4
  z4 := Try.sizeOf4
  v4 := Try.zeroValue4
  t5 := Try.underlying5
  a5 := Try.isAgg5
  z5 := Try.sizeOf5
  v5 := Try.zeroValue5
  t9 := Try.underlying9
  a9 := Try.isAgg9
  z9 := Try.sizeOf9
  v9 := Try.zeroValue9
  t28 := Try.underlying54
  a28 := Try.isAgg54
  z28 := Try.sizeOf54
  v28 := Try.zeroValue54
  t46 := Try.underlying83
  a46 := Try.isAgg83
  z46 := Try.sizeOf83
  v46 := Try.zeroValue83
  t51 := Try.underlying96
  a51 := Try.isAgg96
  z51 := Try.sizeOf96
  v51 := Try.zeroValue96
  t53 := Try.underlying98
  a53 := Try.isAgg98
  z53 := Try.sizeOf98
  v53 := Try.zeroValue98
  t131 := Try.underlying93
  a131 := Try.isAgg93
  z131 := Try.sizeOf93
  v131 := Try.zeroValue93
  t182 := Try.underlying87
  a182 := Try.isAgg87
  z182 := Try.sizeOf87
  v182 := Try.zeroValue87
  t183 := Try.underlying88
  a183 := Try.isAgg88
  z183 := Try.sizeOf88
  v183 := Try.zeroValue88
  t218 := Try.underlying99
  a218 := Try.isAgg99
  z218 := Try.sizeOf99
  v218 := Try.zeroValue99
  t222 := Try.underlying103
  a222 := Try.isAgg103
  z222 := Try.sizeOf103
  v222 := Try.zeroValue103
  t228 := Try.underlying107
  a228 := Try.isAgg107
  z228 := Try.sizeOf107
  v228 := Try.zeroValue107
  t229 := Try.underlying62
  a229 := Try.isAgg62
  z229 := Try.sizeOf62
  v229 := Try.zeroValue62
end Go.Sx.T
