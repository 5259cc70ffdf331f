/- Contracts of functions of the program, each proved by running its code symbolically (CC2). -/
import Derived.Test.YteecckjnbeambaaCC
import Derived.KernelRfl
import Derived.Test.YteecckjnbeambaaProg
/- The slimmed code of the functions. -/
set_option maxRecDepth 100000
namespace Go.Sx
open Go Go.Proofs
def F58 : Fn :=

  { N := 6,
    code :=
      (SC.ops false [{ dst := some 2, op := SOp.mov (Operand.const (Value.bool false)), g := none }]).seq
        ((SC.ops false
              [{ dst := some 3, op := SOp.mov (Operand.tmp 0), g := none },
                { dst := some 4, op := SOp.mov (Operand.tmp 0), g := none },
                { dst := some 5, op := SOp.bin BinOp.neq (Operand.tmp 3) (Operand.tmp 4), g := none },
                { dst := some 2, op := SOp.mov (Operand.tmp 5), g := none }]).seq
          SC.ret),
    res := [SR.tmp 2] }
theorem F58_ok : slimFn Try.prog hv Try.f58 = some F58 := by kernel_rfl
end Go.Sx
