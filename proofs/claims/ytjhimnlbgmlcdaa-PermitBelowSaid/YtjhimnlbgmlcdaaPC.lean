/- The code of the functions that the claim reaches, slimmed by a program of ours; each equation is checked by the kernel. -/
import Derived.Test.YtjhimnlbgmlcdaaSx2
import Derived.KernelRfl
import Derived.Test.YtjhimnlbgmlcdaaProg
set_option maxRecDepth 100000
namespace Go.Sx
open Go Go.Proofs
def hv : List Nat × List Nat := ([43, 26], [43, 26, 17, 37, 45, 28])
def F3 : Fn :=

  { N := 61,
    code :=
      (SC.ops false
            [{ dst := some 3, op := SOp.box 25 (Operand.tmp 1), g := none },
              { dst := some 4, op := SOp.mov (Operand.const (Value.bool false)), g := none }]).seq
        (((SC.ops false
                  [{ dst := some 7, op := SOp.call 11 [], g := none },
                    { dst := some 8, op := SOp.un UnOp.not (Operand.tmp 7), g := none }]).seq
              (SC.cond (Operand.tmp 8)
                ((SC.ops false [{ dst := some 4, op := SOp.mov (Operand.const (Value.bool false)), g := none }]).seq
                  SC.ret)
                SC.skip)).seq
          (((SC.ops false
                    [{ dst := some 9, op := SOp.fld 1 (Operand.tmp 3), g := none },
                      { dst := some 10, op := SOp.load1 (Operand.tmp 9), g := none },
                      { dst := some 11, op := SOp.len (Operand.tmp 10), g := none },
                      { dst := some 12,
                        op := SOp.bin BinOp.gtr (Operand.tmp 11) (Operand.const (Value.int IntKind.i64 (Int.ofNat 20))),
                        g := none },
                      { dst := some 13, op := SOp.mov (Operand.tmp 12), g := none },
                      { dst := some 14, op := SOp.mov (Operand.tmp 0), g := some (13, false) },
                      { dst := some 15, op := SOp.call 12 [Operand.tmp 14, Operand.const (Value.slice none 0 0)],
                        g := some (13, false) },
                      { dst := some 16, op := SOp.un UnOp.not (Operand.tmp 15), g := some (13, false) },
                      { dst := some 17, op := SOp.mov (Operand.tmp 16), g := some (13, false) },
                      { dst := some 18, op := SOp.mov (Operand.tmp 0), g := some (17, true) },
                      { dst := some 19, op := SOp.len (Operand.tmp 18), g := some (17, true) },
                      { dst := some 20,
                        op := SOp.bin BinOp.neq (Operand.tmp 19) (Operand.const (Value.int IntKind.i64 (Int.ofNat 65))),
                        g := some (17, true) },
                      { dst := some 21, op := SOp.pick 17 (Operand.tmp 20) (Operand.const (Value.bool false)),
                        g := some (13, false) },
                      { dst := some 22, op := SOp.pick 13 (Operand.const (Value.bool true)) (Operand.tmp 21),
                        g := none }]).seq
                (SC.cond (Operand.tmp 22)
                  ((SC.ops false [{ dst := some 4, op := SOp.mov (Operand.const (Value.bool true)), g := none }]).seq
                    SC.ret)
                  SC.skip)).seq
            (((SC.ops false
                      [{ dst := some 23, op := SOp.mov (Operand.tmp 0), g := none },
                        { dst := some 24, op := SOp.mov (Operand.tmp 0), g := none },
                        { dst := some 25, op := SOp.len (Operand.tmp 24), g := none },
                        { dst := some 26,
                          op := SOp.mm false (Operand.tmp 25) (Operand.const (Value.int IntKind.i64 (Int.ofNat 20))),
                          g := none },
                        { dst := some 27, op := SOp.slice 6 (Operand.tmp 23) none (some (Operand.tmp 26)), g := none },
                        { dst := some 28, op := SOp.len (Operand.tmp 27), g := none },
                        { dst := some 29, op := SOp.mov (Operand.const (Value.int IntKind.i64 (Int.ofNat 0))),
                          g := none }]).seq
                  (SC.block 0
                    ((SC.ops false
                            [{ dst := some 30, op := SOp.bin BinOp.lss (Operand.tmp 29) (Operand.tmp 28),
                                g := none }]).seq
                        ((SC.cond (Operand.tmp 30) SC.skip (SC.exit 0)).seq
                          ((SC.block 1
                                ((SC.ops false
                                      [{ dst := some 31, op := SOp.idx 6 (Operand.tmp 27) (Operand.tmp 29), g := none },
                                        { dst := some 32, op := SOp.loadN 6 (Operand.tmp 31), g := none },
                                        { dst := some 6,
                                          op :=
                                            SOp.alloc 31
                                              [Value.int IntKind.i64 (Int.ofNat 0), Value.int IntKind.i64 (Int.ofNat 0),
                                                Value.int IntKind.i64 (Int.ofNat 0),
                                                Value.int IntKind.i64 (Int.ofNat 0),
                                                Value.int IntKind.i64 (Int.ofNat 0),
                                                Value.int IntKind.i64 (Int.ofNat 0)],
                                          g := none },
                                        { dst := none, op := SOp.store 6 (Operand.tmp 6) (Operand.tmp 32),
                                          g := none }]).seq
                                  ((SC.ops true
                                        [{ dst := some 33, op := SOp.loadN 6 (Operand.tmp 6), g := none },
                                          { dst := some 34, op := SOp.fld 0 (Operand.tmp 3), g := none },
                                          { dst := some 35, op := SOp.load1 (Operand.tmp 34), g := none },
                                          { dst := some 36, op := SOp.loadN 4 (Operand.tmp 3), g := none },
                                          { dst := some 37, op := SOp.call 14 [Operand.tmp 36], g := none },
                                          { dst := some 38, op := SOp.fld 2 (Operand.tmp 3), g := none },
                                          { dst := some 39, op := SOp.load1 (Operand.tmp 38), g := none },
                                          { dst := some 40, op := SOp.fld 3 (Operand.tmp 3), g := none },
                                          { dst := some 41, op := SOp.load1 (Operand.tmp 40), g := none },
                                          { dst := some 42,
                                            op :=
                                              SOp.call 13
                                                [Operand.tmp 33, Operand.tmp 35, Operand.tmp 37, Operand.tmp 39,
                                                  Operand.tmp 41],
                                            g := none },
                                          { dst := some 43, op := SOp.loadN 6 (Operand.tmp 6), g := none },
                                          { dst := some 44, op := SOp.fld 0 (Operand.tmp 3), g := none },
                                          { dst := some 45, op := SOp.load1 (Operand.tmp 44), g := none },
                                          { dst := some 46, op := SOp.fld 1 (Operand.tmp 3), g := none },
                                          { dst := some 47, op := SOp.load1 (Operand.tmp 46), g := none },
                                          { dst := some 48, op := SOp.fld 2 (Operand.tmp 3), g := none },
                                          { dst := some 49, op := SOp.load1 (Operand.tmp 48), g := none },
                                          { dst := some 50, op := SOp.fld 3 (Operand.tmp 3), g := none },
                                          { dst := some 51, op := SOp.load1 (Operand.tmp 50), g := none },
                                          { dst := some 52,
                                            op :=
                                              SOp.call 15
                                                [Operand.tmp 43, Operand.tmp 45, Operand.tmp 47, Operand.tmp 49,
                                                  Operand.tmp 51],
                                            g := none },
                                          { dst := some 53, op := SOp.binB BinOp.neq (Operand.tmp 42) (Operand.tmp 52),
                                            g := none }]).seq
                                    (SC.cond (Operand.tmp 53)
                                      ((SC.ops false
                                            [{ dst := some 4, op := SOp.mov (Operand.const (Value.bool false)),
                                                g := none }]).seq
                                        SC.ret)
                                      SC.skip)))).seq
                            (SC.ops false
                              [{ dst := some 54,
                                  op :=
                                    SOp.bin BinOp.add (Operand.tmp 29)
                                      (Operand.const (Value.int IntKind.i64 (Int.ofNat 1))),
                                  g := none },
                                { dst := some 29, op := SOp.mov (Operand.tmp 54), g := none }])))).loop)).seq
              ((SC.ops false
                    [{ dst := some 55, op := SOp.mov (Operand.tmp 0), g := none },
                      { dst := some 56, op := SOp.call 17 [Operand.tmp 55], g := none },
                      { dst := some 57, op := SOp.call 16 [Operand.tmp 56], g := none },
                      { dst := some 58, op := SOp.mov (Operand.tmp 0), g := none },
                      { dst := some 59, op := SOp.call 18 [Operand.tmp 58], g := none },
                      { dst := some 60, op := SOp.bin BinOp.eql (Operand.tmp 57) (Operand.tmp 59), g := none },
                      { dst := some 4, op := SOp.mov (Operand.tmp 60), g := none }]).seq
                SC.ret)))),
    res := [SR.tmp 4] }
theorem F3_ok : slimFn Try.prog hv Try.f3 = some F3 := by kernel_rfl
def F8 : Fn :=

  { N := 51,
    code :=
      (SC.ops false
            [{ dst := some 3, op := SOp.box 31 (Operand.tmp 0), g := none },
              { dst := some 4, op := SOp.box 25 (Operand.tmp 1), g := none },
              { dst := some 6, op := SOp.mov (Operand.const (Value.bool false)), g := none }]).seq
        (((SC.ops false
                  [{ dst := some 7, op := SOp.call 11 [], g := none },
                    { dst := some 8, op := SOp.un UnOp.not (Operand.tmp 7), g := none }]).seq
              (SC.cond (Operand.tmp 8)
                ((SC.ops false [{ dst := some 6, op := SOp.mov (Operand.const (Value.bool false)), g := none }]).seq
                  SC.ret)
                SC.skip)).seq
          (((SC.ops true
                    [{ dst := some 9, op := SOp.fld 1 (Operand.tmp 4), g := none },
                      { dst := some 10, op := SOp.load1 (Operand.tmp 9), g := none },
                      { dst := some 11, op := SOp.len (Operand.tmp 10), g := none },
                      { dst := some 12,
                        op := SOp.bin BinOp.gtr (Operand.tmp 11) (Operand.const (Value.int IntKind.i64 (Int.ofNat 20))),
                        g := none },
                      { dst := some 13, op := SOp.mov (Operand.tmp 12), g := none },
                      { dst := some 14, op := SOp.mov (Operand.tmp 2), g := some (13, false) },
                      { dst := some 15, op := SOp.len (Operand.tmp 14), g := some (13, false) },
                      { dst := some 16,
                        op := SOp.bin BinOp.gtr (Operand.tmp 15) (Operand.const (Value.int IntKind.i64 (Int.ofNat 20))),
                        g := some (13, false) },
                      { dst := some 17, op := SOp.pick 13 (Operand.const (Value.bool true)) (Operand.tmp 16),
                        g := none },
                      { dst := some 18, op := SOp.mov (Operand.tmp 17), g := none },
                      { dst := some 19, op := SOp.loadN 6 (Operand.tmp 3), g := some (18, false) },
                      { dst := some 20, op := SOp.fld 0 (Operand.tmp 4), g := some (18, false) },
                      { dst := some 21, op := SOp.load1 (Operand.tmp 20), g := some (18, false) },
                      { dst := some 22, op := SOp.loadN 4 (Operand.tmp 4), g := some (18, false) },
                      { dst := some 23, op := SOp.call 14 [Operand.tmp 22], g := some (18, false) },
                      { dst := some 24, op := SOp.fld 2 (Operand.tmp 4), g := some (18, false) },
                      { dst := some 25, op := SOp.load1 (Operand.tmp 24), g := some (18, false) },
                      { dst := some 26, op := SOp.fld 3 (Operand.tmp 4), g := some (18, false) },
                      { dst := some 27, op := SOp.load1 (Operand.tmp 26), g := some (18, false) },
                      { dst := some 28,
                        op :=
                          SOp.call 13 [Operand.tmp 19, Operand.tmp 21, Operand.tmp 23, Operand.tmp 25, Operand.tmp 27],
                        g := some (18, false) },
                      { dst := some 29, op := SOp.un UnOp.not (Operand.tmp 28), g := some (18, false) },
                      { dst := some 30, op := SOp.pick 18 (Operand.const (Value.bool true)) (Operand.tmp 29),
                        g := none }]).seq
                (SC.cond (Operand.tmp 30)
                  ((SC.ops false [{ dst := some 6, op := SOp.mov (Operand.const (Value.bool true)), g := none }]).seq
                    SC.ret)
                  SC.skip)).seq
            ((SC.ops true
                  [{ dst := some 31, op := SOp.loadN 6 (Operand.tmp 3), g := none },
                    { dst := some 32, op := SOp.fld 0 (Operand.tmp 4), g := none },
                    { dst := some 33, op := SOp.load1 (Operand.tmp 32), g := none },
                    { dst := some 34, op := SOp.mov (Operand.tmp 2), g := none },
                    { dst := some 35, op := SOp.fld 1 (Operand.tmp 4), g := none },
                    { dst := some 36, op := SOp.load1 (Operand.tmp 35), g := none },
                    { dst := some 37,
                      op := SOp.buildS 23 1 2 [Value.slice none 0 0] [(0, Operand.tmp 34), (1, Operand.tmp 36)],
                      g := none },
                    { dst := some 38, op := SOp.call 28 [Operand.tmp 37], g := none },
                    { dst := some 39, op := SOp.fld 2 (Operand.tmp 4), g := none },
                    { dst := some 40, op := SOp.load1 (Operand.tmp 39), g := none },
                    { dst := some 41, op := SOp.fld 3 (Operand.tmp 4), g := none },
                    { dst := some 42, op := SOp.load1 (Operand.tmp 41), g := none },
                    { dst := some 43,
                      op :=
                        SOp.call 13 [Operand.tmp 31, Operand.tmp 33, Operand.tmp 38, Operand.tmp 40, Operand.tmp 42],
                      g := none },
                    { dst := some 44, op := SOp.mov (Operand.tmp 43), g := none },
                    { dst := some 45, op := SOp.fld 1 (Operand.tmp 4), g := some (44, true) },
                    { dst := some 46, op := SOp.load1 (Operand.tmp 45), g := some (44, true) },
                    { dst := some 47, op := SOp.fld 2 (Operand.tmp 3), g := some (44, true) },
                    { dst := some 48, op := SOp.load1 (Operand.tmp 47), g := some (44, true) },
                    { dst := some 49, op := SOp.call 29 [Operand.tmp 46, Operand.tmp 48], g := some (44, true) },
                    { dst := some 50, op := SOp.pick 44 (Operand.tmp 49) (Operand.const (Value.bool false)),
                      g := none },
                    { dst := some 6, op := SOp.mov (Operand.tmp 50), g := none }]).seq
              SC.ret))),
    res := [SR.tmp 6] }
theorem F8_ok : slimFn Try.prog hv Try.f8 = some F8 := by kernel_rfl
def F11 : Fn :=

  { N := 75,
    code :=
      (SC.ops false [{ dst := some 0, op := SOp.mov (Operand.const (Value.bool false)), g := none }]).seq
        ((SC.ops false
              [{ dst := some 10,
                  op :=
                    SOp.build [Value.int IntKind.i64 (Int.ofNat 0), Value.int IntKind.i64 (Int.ofNat 0)]
                      [(0, 1, Operand.const (Value.int IntKind.i64 (Int.ofNat 100))),
                        (1, 1, Operand.const (Value.int IntKind.i64 (Int.ofNat 1048576)))],
                  g := none },
                { dst := some 11,
                  op :=
                    SOp.build
                      [Value.int IntKind.i64 (Int.ofNat 0), Value.int IntKind.i64 (Int.ofNat 0),
                        Value.int IntKind.i64 (Int.ofNat 0), Value.int IntKind.i64 (Int.ofNat 0),
                        Value.int IntKind.i64 (Int.ofNat 0), Value.int IntKind.i64 (Int.ofNat 0)]
                      [(0, 1, Operand.const (Value.int IntKind.i64 (Int.ofNat 3))),
                        (1, 1, Operand.const (Value.int IntKind.i64 (Int.ofNat 8))),
                        (2, 1, Operand.const (Value.int IntKind.i64 (Int.ofNat 20))),
                        (3, 1, Operand.const (Value.int IntKind.i64 (Int.ofNat 5))), (4, 2, Operand.tmp 10)],
                  g := none },
                { dst := some 1,
                  op :=
                    SOp.alloc 31
                      [Value.int IntKind.i64 (Int.ofNat 0), Value.int IntKind.i64 (Int.ofNat 0),
                        Value.int IntKind.i64 (Int.ofNat 0), Value.int IntKind.i64 (Int.ofNat 0),
                        Value.int IntKind.i64 (Int.ofNat 0), Value.int IntKind.i64 (Int.ofNat 0)],
                  g := none },
                { dst := none, op := SOp.store 6 (Operand.tmp 1) (Operand.tmp 11), g := none }]).seq
          ((SC.ops false
                [{ dst := some 13, op := SOp.loadN 6 (Operand.tmp 1), g := none },
                  { dst := some 14, op := SOp.call 19 [Operand.const (Value.slice none 0 0), Operand.tmp 13],
                    g := none },
                  { dst := some 12, op := SOp.mov (Operand.tmp 14), g := none },
                  { dst := some 15, op := SOp.ext (Operand.tmp 12) 0, g := none },
                  { dst := some 16, op := SOp.ext (Operand.tmp 12) 1, g := none },
                  { dst := some 2, op := SOp.mov (Operand.tmp 15), g := none },
                  { dst := some 3, op := SOp.mov (Operand.tmp 16), g := none }]).seq
            ((SC.ops false
                  [{ dst := some 18, op := SOp.mov (Operand.tmp 2), g := none },
                    { dst := some 19,
                      op :=
                        SOp.buildS 3 1 3 [Value.int IntKind.i64 (Int.ofNat 0)]
                          [(0, Operand.const (Value.int IntKind.i64 (Int.ofNat 22))),
                            (1, Operand.const (Value.int IntKind.i64 (Int.ofNat 21))),
                            (2, Operand.const (Value.int IntKind.i64 (Int.ofNat 20)))],
                      g := none },
                    { dst := some 20,
                      op :=
                        SOp.call 24
                          [Operand.tmp 18, Operand.const (Value.int IntKind.i64 (Int.ofNat 8)), Operand.tmp 19,
                            Operand.const (Value.int IntKind.i64 (Int.ofNat 3)),
                            Operand.const (Value.int IntKind.i64 (Int.ofNat 100))],
                      g := none },
                    { dst := some 17, op := SOp.mov (Operand.tmp 20), g := none },
                    { dst := some 21, op := SOp.ext (Operand.tmp 17) 0, g := none },
                    { dst := some 22, op := SOp.ext (Operand.tmp 17) 1, g := none },
                    { dst := some 4, op := SOp.mov (Operand.tmp 21), g := none },
                    { dst := some 5, op := SOp.mov (Operand.tmp 22), g := none }]).seq
              ((SC.ops false
                    [{ dst := some 24, op := SOp.mov (Operand.tmp 2), g := none },
                      { dst := some 25,
                        op :=
                          SOp.call 21
                            [Operand.tmp 24, Operand.const (Value.int IntKind.i64 (Int.ofNat 3)),
                              Operand.const (Value.int IntKind.i64 (Int.ofNat 150))],
                        g := none },
                      { dst := some 23, op := SOp.mov (Operand.tmp 25), g := none },
                      { dst := some 26, op := SOp.ext (Operand.tmp 23) 0, g := none },
                      { dst := some 27, op := SOp.ext (Operand.tmp 23) 1, g := none },
                      { dst := some 6, op := SOp.mov (Operand.tmp 26), g := none },
                      { dst := some 7, op := SOp.mov (Operand.tmp 27), g := none }]).seq
                ((SC.ops false
                      [{ dst := some 29, op := SOp.mov (Operand.tmp 2), g := none },
                        { dst := some 30,
                          op :=
                            SOp.call 21
                              [Operand.tmp 29, Operand.const (Value.int IntKind.i64 (Int.ofNat 3)),
                                Operand.const (Value.int IntKind.i64 (Int.ofNat 90))],
                          g := none },
                        { dst := some 28, op := SOp.mov (Operand.tmp 30), g := none },
                        { dst := some 31, op := SOp.ext (Operand.tmp 28) 0, g := none },
                        { dst := some 32, op := SOp.ext (Operand.tmp 28) 1, g := none },
                        { dst := some 8, op := SOp.mov (Operand.tmp 31), g := none },
                        { dst := some 9, op := SOp.mov (Operand.tmp 32), g := none }]).seq
                  ((SC.ops false
                        [{ dst := some 33, op := SOp.mov (Operand.tmp 4), g := none },
                          { dst := some 34,
                            op :=
                              SOp.bin BinOp.eql (Operand.tmp 33) (Operand.const (Value.int IntKind.i64 (Int.ofNat 3))),
                            g := none },
                          { dst := some 35, op := SOp.mov (Operand.tmp 34), g := none },
                          { dst := some 36, op := SOp.mov (Operand.tmp 5), g := some (35, true) },
                          { dst := some 37, op := SOp.pick 35 (Operand.tmp 36) (Operand.const (Value.bool false)),
                            g := none },
                          { dst := some 38, op := SOp.mov (Operand.tmp 37), g := none },
                          { dst := some 39, op := SOp.loadN 6 (Operand.tmp 1), g := some (38, true) },
                          { dst := some 40,
                            op :=
                              SOp.buildS 3 1 1 [Value.int IntKind.i64 (Int.ofNat 0)]
                                [(0, Operand.const (Value.int IntKind.i64 (Int.ofNat 20)))],
                            g := some (38, true) },
                          { dst := some 41,
                            op :=
                              SOp.call 13
                                [Operand.tmp 39, Operand.const (Value.int IntKind.i64 (Int.ofNat 8)), Operand.tmp 40,
                                  Operand.const (Value.int IntKind.i64 (Int.ofNat 1)),
                                  Operand.const (Value.int IntKind.i64 (Int.ofNat 100))],
                            g := some (38, true) },
                          { dst := some 42, op := SOp.pick 38 (Operand.tmp 41) (Operand.const (Value.bool false)),
                            g := none },
                          { dst := some 43, op := SOp.mov (Operand.tmp 42), g := none },
                          { dst := some 44, op := SOp.loadN 6 (Operand.tmp 1), g := some (43, true) },
                          { dst := some 45,
                            op :=
                              SOp.buildS 3 1 1 [Value.int IntKind.i64 (Int.ofNat 0)]
                                [(0, Operand.const (Value.int IntKind.i64 (Int.ofNat 20)))],
                            g := some (43, true) },
                          { dst := some 46,
                            op :=
                              SOp.call 13
                                [Operand.tmp 44, Operand.const (Value.int IntKind.i64 (Int.ofNat 8)), Operand.tmp 45,
                                  Operand.const (Value.int IntKind.i64 (Int.ofNat 2)),
                                  Operand.const (Value.int IntKind.i64 (Int.ofNat 100))],
                            g := some (43, true) },
                          { dst := some 47, op := SOp.un UnOp.not (Operand.tmp 46), g := some (43, true) },
                          { dst := some 48, op := SOp.pick 43 (Operand.tmp 47) (Operand.const (Value.bool false)),
                            g := none },
                          { dst := some 49, op := SOp.mov (Operand.tmp 48), g := none },
                          { dst := some 50, op := SOp.mov (Operand.tmp 6), g := some (49, true) },
                          { dst := some 51, op := SOp.len (Operand.tmp 50), g := some (49, true) },
                          { dst := some 52,
                            op :=
                              SOp.bin BinOp.eql (Operand.tmp 51) (Operand.const (Value.int IntKind.i64 (Int.ofNat 1))),
                            g := some (49, true) },
                          { dst := some 53, op := SOp.pick 49 (Operand.tmp 52) (Operand.const (Value.bool false)),
                            g := none },
                          { dst := some 54, op := SOp.mov (Operand.tmp 53), g := none },
                          { dst := some 55, op := SOp.mov (Operand.tmp 6), g := some (54, true) },
                          { dst := some 56,
                            op := SOp.idx 6 (Operand.tmp 55) (Operand.const (Value.int IntKind.i64 (Int.ofNat 0))),
                            g := some (54, true) },
                          { dst := some 57, op := SOp.fld 4 (Operand.tmp 56), g := some (54, true) },
                          { dst := some 58, op := SOp.fld 1 (Operand.tmp 57), g := some (54, true) },
                          { dst := some 59, op := SOp.load1 (Operand.tmp 58), g := some (54, true) },
                          { dst := some 60,
                            op :=
                              SOp.bin BinOp.eql (Operand.tmp 59)
                                (Operand.const (Value.int IntKind.i64 (Int.ofNat 150))),
                            g := some (54, true) },
                          { dst := some 61, op := SOp.pick 54 (Operand.tmp 60) (Operand.const (Value.bool false)),
                            g := none },
                          { dst := some 62, op := SOp.mov (Operand.tmp 61), g := none },
                          { dst := some 63, op := SOp.mov (Operand.tmp 8), g := some (62, true) },
                          { dst := some 64, op := SOp.len (Operand.tmp 63), g := some (62, true) },
                          { dst := some 65,
                            op :=
                              SOp.bin BinOp.eql (Operand.tmp 64) (Operand.const (Value.int IntKind.i64 (Int.ofNat 0))),
                            g := some (62, true) },
                          { dst := some 66, op := SOp.pick 62 (Operand.tmp 65) (Operand.const (Value.bool false)),
                            g := none },
                          { dst := some 67, op := SOp.mov (Operand.tmp 66), g := none },
                          { dst := some 68, op := SOp.mov (Operand.tmp 3), g := some (67, true) },
                          { dst := some 69, op := SOp.mov (Operand.tmp 7), g := some (67, true) },
                          { dst := some 70, op := SOp.bin BinOp.add (Operand.tmp 68) (Operand.tmp 69),
                            g := some (67, true) },
                          { dst := some 71, op := SOp.mov (Operand.tmp 9), g := some (67, true) },
                          { dst := some 72, op := SOp.bin BinOp.add (Operand.tmp 70) (Operand.tmp 71),
                            g := some (67, true) },
                          { dst := some 73,
                            op :=
                              SOp.bin BinOp.eql (Operand.tmp 72) (Operand.const (Value.int IntKind.i64 (Int.ofNat 0))),
                            g := some (67, true) },
                          { dst := some 74, op := SOp.pick 67 (Operand.tmp 73) (Operand.const (Value.bool false)),
                            g := none },
                          { dst := some 0, op := SOp.mov (Operand.tmp 74), g := none }]).seq
                    SC.ret)))))),
    res := [SR.tmp 0] }
theorem F11_ok : slimFn Try.prog hv Try.f11 = some F11 := by kernel_rfl
def F12 : Fn :=

  { N := 13,
    code :=
      (SC.ops false [{ dst := some 4, op := SOp.mov (Operand.const (Value.bool false)), g := none }]).seq
        ((SC.ops false
              [{ dst := some 5, op := SOp.mov (Operand.tmp 0), g := none },
                { dst := some 6, op := SOp.len (Operand.tmp 5), g := none },
                { dst := some 7,
                  op := SOp.bin BinOp.leq (Operand.tmp 6) (Operand.const (Value.int IntKind.i64 (Int.ofNat 20))),
                  g := none },
                { dst := some 8, op := SOp.mov (Operand.tmp 7), g := none },
                { dst := some 9, op := SOp.mov (Operand.tmp 1), g := some (8, true) },
                { dst := some 10, op := SOp.len (Operand.tmp 9), g := some (8, true) },
                { dst := some 11,
                  op := SOp.bin BinOp.leq (Operand.tmp 10) (Operand.const (Value.int IntKind.i64 (Int.ofNat 20))),
                  g := some (8, true) },
                { dst := some 12, op := SOp.pick 8 (Operand.tmp 11) (Operand.const (Value.bool false)), g := none },
                { dst := some 4, op := SOp.mov (Operand.tmp 12), g := none }]).seq
          SC.ret),
    res := [SR.tmp 4] }
theorem F12_ok : slimFn Try.prog hv Try.f12 = some F12 := by kernel_rfl
def F13 : Fn :=

  { N := 26,
    code :=
      (SC.ops false
            [{ dst := some 5, op := SOp.box 31 (Operand.tmp 0), g := none },
              { dst := some 10, op := SOp.mov (Operand.const (Value.bool false)), g := none }]).seq
        ((SC.ops false
              [{ dst := some 11, op := SOp.fld 1 (Operand.tmp 5), g := none },
                { dst := some 12, op := SOp.load1 (Operand.tmp 11), g := none },
                { dst := some 13, op := SOp.mov (Operand.tmp 1), g := none },
                { dst := some 14, op := SOp.bin BinOp.eql (Operand.tmp 12) (Operand.tmp 13), g := none },
                { dst := some 15, op := SOp.mov (Operand.tmp 14), g := none },
                { dst := some 16, op := SOp.loadN 6 (Operand.tmp 5), g := some (15, true) },
                { dst := some 17, op := SOp.mov (Operand.tmp 2), g := some (15, true) },
                { dst := some 18, op := SOp.mov (Operand.tmp 4), g := some (15, true) },
                { dst := some 19, op := SOp.call 35 [Operand.tmp 16, Operand.tmp 17, Operand.tmp 18],
                  g := some (15, true) },
                { dst := some 20, op := SOp.pick 15 (Operand.tmp 19) (Operand.const (Value.bool false)), g := none },
                { dst := some 21, op := SOp.mov (Operand.tmp 20), g := none },
                { dst := some 22, op := SOp.loadN 6 (Operand.tmp 5), g := some (21, true) },
                { dst := some 23, op := SOp.mov (Operand.tmp 3), g := some (21, true) },
                { dst := some 24, op := SOp.call 36 [Operand.tmp 22, Operand.tmp 23], g := some (21, true) },
                { dst := some 25, op := SOp.pick 21 (Operand.tmp 24) (Operand.const (Value.bool false)), g := none },
                { dst := some 10, op := SOp.mov (Operand.tmp 25), g := none }]).seq
          SC.ret),
    res := [SR.tmp 10] }
theorem F13_ok : slimFn Try.prog hv Try.f13 = some F13 := by kernel_rfl
def F14 : Fn :=

  { N := 6,
    code :=
      (SC.ops false
            [{ dst := some 1, op := SOp.box 25 (Operand.tmp 0), g := none },
              { dst := some 2, op := SOp.mov (Operand.const (Value.slice none 0 0)), g := none }]).seq
        ((SC.ops false
              [{ dst := some 3, op := SOp.fld 1 (Operand.tmp 1), g := none },
                { dst := some 4, op := SOp.load1 (Operand.tmp 3), g := none },
                { dst := some 5, op := SOp.call 37 [Operand.tmp 4], g := none },
                { dst := some 2, op := SOp.mov (Operand.tmp 5), g := none }]).seq
          SC.ret),
    res := [SR.tmp 2] }
theorem F14_ok : slimFn Try.prog hv Try.f14 = some F14 := by kernel_rfl
def F15 : Fn :=

  { N := 58,
    code :=
      (SC.ops false
            [{ dst := some 5, op := SOp.box 31 (Operand.tmp 0), g := none },
              { dst := some 10, op := SOp.mov (Operand.const (Value.bool false)), g := none }]).seq
        (((SC.ops false
                  [{ dst := some 11, op := SOp.loadN 6 (Operand.tmp 5), g := none },
                    { dst := some 12, op := SOp.call 38 [Operand.tmp 11], g := none },
                    { dst := some 13, op := SOp.un UnOp.not (Operand.tmp 12), g := none },
                    { dst := some 14, op := SOp.mov (Operand.tmp 13), g := none },
                    { dst := some 15, op := SOp.mov (Operand.tmp 3), g := some (14, false) },
                    { dst := some 16,
                      op := SOp.bin BinOp.lss (Operand.tmp 15) (Operand.const (Value.int IntKind.i64 (Int.ofNat 1))),
                      g := some (14, false) },
                    { dst := some 17, op := SOp.pick 14 (Operand.const (Value.bool true)) (Operand.tmp 16), g := none },
                    { dst := some 18, op := SOp.mov (Operand.tmp 17), g := none },
                    { dst := some 19, op := SOp.mov (Operand.tmp 3), g := some (18, false) },
                    { dst := some 20,
                      op := SOp.bin BinOp.gtr (Operand.tmp 19) (Operand.const (Value.int IntKind.i64 (Int.ofNat 3))),
                      g := some (18, false) },
                    { dst := some 21, op := SOp.pick 18 (Operand.const (Value.bool true)) (Operand.tmp 20),
                      g := none }]).seq
              (SC.cond (Operand.tmp 21)
                ((SC.ops false [{ dst := some 10, op := SOp.mov (Operand.const (Value.bool false)), g := none }]).seq
                  SC.ret)
                SC.skip)).seq
          ((SC.ops true
                [{ dst := some 22, op := SOp.fld 1 (Operand.tmp 5), g := none },
                  { dst := some 23, op := SOp.load1 (Operand.tmp 22), g := none },
                  { dst := some 24, op := SOp.mov (Operand.tmp 1), g := none },
                  { dst := some 25, op := SOp.bin BinOp.eql (Operand.tmp 23) (Operand.tmp 24), g := none },
                  { dst := some 26, op := SOp.mov (Operand.tmp 25), g := none },
                  { dst := some 27, op := SOp.mov (Operand.tmp 2), g := some (26, true) },
                  { dst := some 28, op := SOp.fld 2 (Operand.tmp 5), g := some (26, true) },
                  { dst := some 29, op := SOp.load1 (Operand.tmp 28), g := some (26, true) },
                  { dst := some 30, op := SOp.call 39 [Operand.tmp 27, Operand.tmp 29], g := some (26, true) },
                  { dst := some 31, op := SOp.pick 26 (Operand.tmp 30) (Operand.const (Value.bool false)), g := none },
                  { dst := some 32, op := SOp.mov (Operand.tmp 31), g := none },
                  { dst := some 33, op := SOp.fld 3 (Operand.tmp 5), g := some (32, true) },
                  { dst := some 34, op := SOp.load1 (Operand.tmp 33), g := some (32, true) },
                  { dst := some 35,
                    op :=
                      SOp.buildS 3 1 3 [Value.int IntKind.i64 (Int.ofNat 0)]
                        [(0, Operand.const (Value.int IntKind.i64 (Int.ofNat 1))),
                          (1, Operand.const (Value.int IntKind.i64 (Int.ofNat 2))),
                          (2, Operand.const (Value.int IntKind.i64 (Int.ofNat 4)))],
                    g := some (32, true) },
                  { dst := some 36, op := SOp.mov (Operand.tmp 3), g := some (32, true) },
                  { dst := some 37,
                    op := SOp.bin BinOp.sub (Operand.tmp 36) (Operand.const (Value.int IntKind.i64 (Int.ofNat 1))),
                    g := some (32, true) },
                  { dst := some 38, op := SOp.idx 1 (Operand.tmp 35) (Operand.tmp 37), g := some (32, true) },
                  { dst := some 39, op := SOp.load1 (Operand.tmp 38), g := some (32, true) },
                  { dst := some 40, op := SOp.bin BinOp.quo (Operand.tmp 34) (Operand.tmp 39), g := some (32, true) },
                  { dst := some 41,
                    op := SOp.bin BinOp.rem (Operand.tmp 40) (Operand.const (Value.int IntKind.i64 (Int.ofNat 2))),
                    g := some (32, true) },
                  { dst := some 42,
                    op := SOp.bin BinOp.eql (Operand.tmp 41) (Operand.const (Value.int IntKind.i64 (Int.ofNat 1))),
                    g := some (32, true) },
                  { dst := some 43, op := SOp.pick 32 (Operand.tmp 42) (Operand.const (Value.bool false)), g := none },
                  { dst := some 44, op := SOp.mov (Operand.tmp 43), g := none },
                  { dst := some 45, op := SOp.fld 4 (Operand.tmp 5), g := some (44, true) },
                  { dst := some 46, op := SOp.fld 0 (Operand.tmp 45), g := some (44, true) },
                  { dst := some 47, op := SOp.load1 (Operand.tmp 46), g := some (44, true) },
                  { dst := some 48, op := SOp.mov (Operand.tmp 4), g := some (44, true) },
                  { dst := some 49, op := SOp.bin BinOp.leq (Operand.tmp 47) (Operand.tmp 48), g := some (44, true) },
                  { dst := some 50, op := SOp.pick 44 (Operand.tmp 49) (Operand.const (Value.bool false)), g := none },
                  { dst := some 51, op := SOp.mov (Operand.tmp 50), g := none },
                  { dst := some 52, op := SOp.mov (Operand.tmp 4), g := some (51, true) },
                  { dst := some 53, op := SOp.fld 4 (Operand.tmp 5), g := some (51, true) },
                  { dst := some 54, op := SOp.fld 1 (Operand.tmp 53), g := some (51, true) },
                  { dst := some 55, op := SOp.load1 (Operand.tmp 54), g := some (51, true) },
                  { dst := some 56, op := SOp.bin BinOp.lss (Operand.tmp 52) (Operand.tmp 55), g := some (51, true) },
                  { dst := some 57, op := SOp.pick 51 (Operand.tmp 56) (Operand.const (Value.bool false)), g := none },
                  { dst := some 10, op := SOp.mov (Operand.tmp 57), g := none }]).seq
            SC.ret)),
    res := [SR.tmp 10] }
theorem F15_ok : slimFn Try.prog hv Try.f15 = some F15 := by kernel_rfl
def F16 : Fn :=

  { N := 34,
    code :=
      (SC.ops false
            [{ dst := some 2, op := SOp.mov (Operand.const (Value.int IntKind.i64 (Int.ofNat 0))), g := none }]).seq
        (((SC.ops false
                  [{ dst := some 5, op := SOp.mov (Operand.tmp 0), g := none },
                    { dst := some 6, op := SOp.len (Operand.tmp 5), g := none },
                    { dst := some 7,
                      op := SOp.bin BinOp.gtr (Operand.tmp 6) (Operand.const (Value.int IntKind.i64 (Int.ofNat 64))),
                      g := none }]).seq
              (SC.cond (Operand.tmp 7)
                ((SC.ops false
                      [{ dst := some 2, op := SOp.mov (Operand.const (Value.int IntKind.i64 (Int.ofNat 8))),
                          g := none }]).seq
                  SC.ret)
                SC.skip)).seq
          (((SC.ops false
                    [{ dst := some 8, op := SOp.mov (Operand.tmp 0), g := none },
                      { dst := some 9, op := SOp.len (Operand.tmp 8), g := none },
                      { dst := some 10, op := SOp.mov (Operand.const (Value.int IntKind.i64 (Int.ofNat 0))),
                        g := none }]).seq
                (SC.block 0
                  ((SC.ops false
                          [{ dst := some 11, op := SOp.bin BinOp.lss (Operand.tmp 10) (Operand.tmp 9), g := none }]).seq
                      ((SC.cond (Operand.tmp 11) SC.skip (SC.exit 0)).seq
                        ((SC.block 1
                              ((SC.ops false
                                    [{ dst := some 12, op := SOp.mov (Operand.tmp 10), g := none },
                                      { dst := some 13, op := SOp.idx 6 (Operand.tmp 8) (Operand.tmp 10), g := none },
                                      { dst := some 14, op := SOp.loadN 6 (Operand.tmp 13), g := none },
                                      { dst := some 4,
                                        op :=
                                          SOp.alloc 31
                                            [Value.int IntKind.i64 (Int.ofNat 0), Value.int IntKind.i64 (Int.ofNat 0),
                                              Value.int IntKind.i64 (Int.ofNat 0), Value.int IntKind.i64 (Int.ofNat 0),
                                              Value.int IntKind.i64 (Int.ofNat 0), Value.int IntKind.i64 (Int.ofNat 0)],
                                        g := none },
                                      { dst := some 3, op := SOp.mov (Operand.tmp 12), g := none },
                                      { dst := none, op := SOp.store 6 (Operand.tmp 4) (Operand.tmp 14),
                                        g := none }]).seq
                                (SC.block 2
                                  ((SC.ops false
                                        [{ dst := some 16, op := SOp.loadN 6 (Operand.tmp 4), g := none },
                                          { dst := some 17, op := SOp.call 40 [Operand.tmp 16], g := none },
                                          { dst := some 18, op := SOp.un UnOp.not (Operand.tmp 17), g := none },
                                          { dst := some 15, op := SOp.mov (Operand.tmp 18), g := none }]).seq
                                    (SC.cond (Operand.tmp 15)
                                      ((SC.ops false
                                            [{ dst := some 2,
                                                op := SOp.mov (Operand.const (Value.int IntKind.i64 (Int.ofNat 2))),
                                                g := none }]).seq
                                        SC.ret)
                                      ((SC.ops true
                                            [{ dst := some 20, op := SOp.mov (Operand.tmp 3), g := none },
                                              { dst := some 21,
                                                op :=
                                                  SOp.bin BinOp.gtr (Operand.tmp 20)
                                                    (Operand.const (Value.int IntKind.i64 (Int.ofNat 0))),
                                                g := none },
                                              { dst := some 22, op := SOp.mov (Operand.tmp 21), g := none },
                                              { dst := some 23, op := SOp.fld 0 (Operand.tmp 4), g := some (22, true) },
                                              { dst := some 24, op := SOp.load1 (Operand.tmp 23),
                                                g := some (22, true) },
                                              { dst := some 25, op := SOp.mov (Operand.tmp 0), g := some (22, true) },
                                              { dst := some 26, op := SOp.mov (Operand.tmp 3), g := some (22, true) },
                                              { dst := some 27,
                                                op :=
                                                  SOp.bin BinOp.sub (Operand.tmp 26)
                                                    (Operand.const (Value.int IntKind.i64 (Int.ofNat 1))),
                                                g := some (22, true) },
                                              { dst := some 28, op := SOp.idx 6 (Operand.tmp 25) (Operand.tmp 27),
                                                g := some (22, true) },
                                              { dst := some 29, op := SOp.fld 0 (Operand.tmp 28),
                                                g := some (22, true) },
                                              { dst := some 30, op := SOp.load1 (Operand.tmp 29),
                                                g := some (22, true) },
                                              { dst := some 31,
                                                op := SOp.bin BinOp.leq (Operand.tmp 24) (Operand.tmp 30),
                                                g := some (22, true) },
                                              { dst := some 32,
                                                op := SOp.pick 22 (Operand.tmp 31) (Operand.const (Value.bool false)),
                                                g := none },
                                              { dst := some 19, op := SOp.mov (Operand.tmp 32), g := none }]).seq
                                        (SC.cond (Operand.tmp 19)
                                          ((SC.ops false
                                                [{ dst := some 2,
                                                    op := SOp.mov (Operand.const (Value.int IntKind.i64 (Int.ofNat 5))),
                                                    g := none }]).seq
                                            SC.ret)
                                          SC.skip))))))).seq
                          (SC.ops false
                            [{ dst := some 33,
                                op :=
                                  SOp.bin BinOp.add (Operand.tmp 10)
                                    (Operand.const (Value.int IntKind.i64 (Int.ofNat 1))),
                                g := none },
                              { dst := some 10, op := SOp.mov (Operand.tmp 33), g := none }])))).loop)).seq
            ((SC.ops false
                  [{ dst := some 2, op := SOp.mov (Operand.const (Value.int IntKind.i64 (Int.ofNat 0))),
                      g := none }]).seq
              SC.ret))),
    res := [SR.tmp 2] }
theorem F16_ok : slimFn Try.prog hv Try.f16 = some F16 := by kernel_rfl
def F17 : Fn :=

  { N := 8,
    code :=
      (SC.ops false [{ dst := some 2, op := SOp.mov (Operand.const (Value.slice none 0 0)), g := none }]).seq
        (((SC.ops false
                  [{ dst := some 3, op := SOp.mov (Operand.tmp 0), g := none },
                    { dst := some 4, op := SOp.isnil false (Operand.tmp 3), g := none }]).seq
              (SC.cond (Operand.tmp 4)
                ((SC.ops false [{ dst := some 2, op := SOp.mov (Operand.const (Value.slice none 0 0)), g := none }]).seq
                  SC.ret)
                SC.skip)).seq
          ((SC.ops false
                [{ dst := some 5,
                    op :=
                      SOp.buildS 31 6 0
                        [Value.int IntKind.i64 (Int.ofNat 0), Value.int IntKind.i64 (Int.ofNat 0),
                          Value.int IntKind.i64 (Int.ofNat 0), Value.int IntKind.i64 (Int.ofNat 0),
                          Value.int IntKind.i64 (Int.ofNat 0), Value.int IntKind.i64 (Int.ofNat 0)]
                        [],
                    g := none },
                  { dst := some 6, op := SOp.mov (Operand.tmp 0), g := none },
                  { dst := some 7,
                    op :=
                      SOp.app 31 6 48
                        [Value.int IntKind.i64 (Int.ofNat 0), Value.int IntKind.i64 (Int.ofNat 0),
                          Value.int IntKind.i64 (Int.ofNat 0), Value.int IntKind.i64 (Int.ofNat 0),
                          Value.int IntKind.i64 (Int.ofNat 0), Value.int IntKind.i64 (Int.ofNat 0)]
                        (Operand.tmp 5) (Operand.tmp 6),
                    g := none },
                  { dst := some 2, op := SOp.mov (Operand.tmp 7), g := none }]).seq
            SC.ret)),
    res := [SR.tmp 2] }
theorem F17_ok : slimFn Try.prog hv Try.f17 = some F17 := by kernel_rfl
def F18 : Fn :=

  { N := 32,
    code :=
      (SC.ops false
            [{ dst := some 2, op := SOp.mov (Operand.const (Value.int IntKind.i64 (Int.ofNat 0))), g := none }]).seq
        (((SC.ops false
                  [{ dst := some 5, op := SOp.mov (Operand.tmp 0), g := none },
                    { dst := some 6, op := SOp.len (Operand.tmp 5), g := none },
                    { dst := some 7,
                      op := SOp.bin BinOp.gtr (Operand.tmp 6) (Operand.const (Value.int IntKind.i64 (Int.ofNat 64))),
                      g := none }]).seq
              (SC.cond (Operand.tmp 7)
                ((SC.ops false
                      [{ dst := some 2, op := SOp.mov (Operand.const (Value.int IntKind.i64 (Int.ofNat 8))),
                          g := none }]).seq
                  SC.ret)
                SC.skip)).seq
          (((SC.ops false
                    [{ dst := some 8, op := SOp.mov (Operand.tmp 0), g := none },
                      { dst := some 9, op := SOp.len (Operand.tmp 8), g := none },
                      { dst := some 10, op := SOp.mov (Operand.const (Value.int IntKind.i64 (Int.ofNat 0))),
                        g := none }]).seq
                (SC.block 0
                  ((SC.ops false
                          [{ dst := some 11, op := SOp.bin BinOp.lss (Operand.tmp 10) (Operand.tmp 9), g := none }]).seq
                      ((SC.cond (Operand.tmp 11) SC.skip (SC.exit 0)).seq
                        ((SC.block 1
                              ((SC.ops false
                                    [{ dst := some 12, op := SOp.mov (Operand.tmp 10), g := none },
                                      { dst := some 13, op := SOp.idx 6 (Operand.tmp 8) (Operand.tmp 10), g := none },
                                      { dst := some 14, op := SOp.loadN 6 (Operand.tmp 13), g := none },
                                      { dst := some 4,
                                        op :=
                                          SOp.alloc 31
                                            [Value.int IntKind.i64 (Int.ofNat 0), Value.int IntKind.i64 (Int.ofNat 0),
                                              Value.int IntKind.i64 (Int.ofNat 0), Value.int IntKind.i64 (Int.ofNat 0),
                                              Value.int IntKind.i64 (Int.ofNat 0), Value.int IntKind.i64 (Int.ofNat 0)],
                                        g := none },
                                      { dst := some 3, op := SOp.mov (Operand.tmp 12), g := none },
                                      { dst := none, op := SOp.store 6 (Operand.tmp 4) (Operand.tmp 14),
                                        g := none }]).seq
                                (((SC.ops false
                                          [{ dst := some 15, op := SOp.loadN 6 (Operand.tmp 4), g := none },
                                            { dst := some 16, op := SOp.call 38 [Operand.tmp 15], g := none },
                                            { dst := some 17, op := SOp.un UnOp.not (Operand.tmp 16), g := none }]).seq
                                      (SC.cond (Operand.tmp 17)
                                        ((SC.ops false
                                              [{ dst := some 2,
                                                  op := SOp.mov (Operand.const (Value.int IntKind.i64 (Int.ofNat 2))),
                                                  g := none }]).seq
                                          SC.ret)
                                        SC.skip)).seq
                                  ((SC.ops true
                                        [{ dst := some 18, op := SOp.mov (Operand.tmp 3), g := none },
                                          { dst := some 19,
                                            op :=
                                              SOp.bin BinOp.gtr (Operand.tmp 18)
                                                (Operand.const (Value.int IntKind.i64 (Int.ofNat 0))),
                                            g := none },
                                          { dst := some 20, op := SOp.mov (Operand.tmp 19), g := none },
                                          { dst := some 21, op := SOp.mov (Operand.tmp 0), g := some (20, true) },
                                          { dst := some 22, op := SOp.mov (Operand.tmp 3), g := some (20, true) },
                                          { dst := some 23,
                                            op :=
                                              SOp.bin BinOp.sub (Operand.tmp 22)
                                                (Operand.const (Value.int IntKind.i64 (Int.ofNat 1))),
                                            g := some (20, true) },
                                          { dst := some 24, op := SOp.idx 6 (Operand.tmp 21) (Operand.tmp 23),
                                            g := some (20, true) },
                                          { dst := some 25, op := SOp.fld 0 (Operand.tmp 24), g := some (20, true) },
                                          { dst := some 26, op := SOp.load1 (Operand.tmp 25), g := some (20, true) },
                                          { dst := some 27, op := SOp.fld 0 (Operand.tmp 4), g := some (20, true) },
                                          { dst := some 28, op := SOp.load1 (Operand.tmp 27), g := some (20, true) },
                                          { dst := some 29, op := SOp.bin BinOp.geq (Operand.tmp 26) (Operand.tmp 28),
                                            g := some (20, true) },
                                          { dst := some 30,
                                            op := SOp.pick 20 (Operand.tmp 29) (Operand.const (Value.bool false)),
                                            g := none }]).seq
                                    (SC.cond (Operand.tmp 30)
                                      ((SC.ops false
                                            [{ dst := some 2,
                                                op := SOp.mov (Operand.const (Value.int IntKind.i64 (Int.ofNat 5))),
                                                g := none }]).seq
                                        SC.ret)
                                      SC.skip))))).seq
                          (SC.ops false
                            [{ dst := some 31,
                                op :=
                                  SOp.bin BinOp.add (Operand.tmp 10)
                                    (Operand.const (Value.int IntKind.i64 (Int.ofNat 1))),
                                g := none },
                              { dst := some 10, op := SOp.mov (Operand.tmp 31), g := none }])))).loop)).seq
            ((SC.ops false
                  [{ dst := some 2, op := SOp.mov (Operand.const (Value.int IntKind.i64 (Int.ofNat 0))),
                      g := none }]).seq
              SC.ret))),
    res := [SR.tmp 2] }
theorem F18_ok : slimFn Try.prog hv Try.f18 = some F18 := by kernel_rfl
def F19 : Fn :=

  { N := 39,
    code :=
      (SC.ops false
            [{ dst := some 3, op := SOp.box 31 (Operand.tmp 1), g := none },
              { dst := some 4, op := SOp.mov (Operand.const (Value.slice none 0 0)), g := none },
              { dst := some 5, op := SOp.mov (Operand.const (Value.int IntKind.i64 (Int.ofNat 0))), g := none }]).seq
        ((SC.block 0
              ((SC.ops false
                    [{ dst := some 7, op := SOp.mov (Operand.tmp 0), g := none },
                      { dst := some 8, op := SOp.call 16 [Operand.tmp 7], g := none },
                      { dst := some 9,
                        op := SOp.bin BinOp.neq (Operand.tmp 8) (Operand.const (Value.int IntKind.i64 (Int.ofNat 0))),
                        g := none },
                      { dst := some 6, op := SOp.mov (Operand.tmp 9), g := none }]).seq
                (SC.cond (Operand.tmp 6)
                  ((SC.ops false
                        [{ dst := some 4, op := SOp.mov (Operand.const (Value.slice none 0 0)), g := none },
                          { dst := some 5, op := SOp.mov (Operand.const (Value.int IntKind.i64 (Int.ofNat 1))),
                            g := none }]).seq
                    SC.ret)
                  ((SC.ops false
                        [{ dst := some 11, op := SOp.loadN 6 (Operand.tmp 3), g := none },
                          { dst := some 12, op := SOp.call 40 [Operand.tmp 11], g := none },
                          { dst := some 13, op := SOp.un UnOp.not (Operand.tmp 12), g := none },
                          { dst := some 10, op := SOp.mov (Operand.tmp 13), g := none }]).seq
                    (SC.cond (Operand.tmp 10)
                      ((SC.ops false
                            [{ dst := some 4, op := SOp.mov (Operand.const (Value.slice none 0 0)), g := none },
                              { dst := some 5, op := SOp.mov (Operand.const (Value.int IntKind.i64 (Int.ofNat 2))),
                                g := none }]).seq
                        SC.ret)
                      ((SC.ops true
                            [{ dst := some 15, op := SOp.mov (Operand.tmp 0), g := none },
                              { dst := some 16, op := SOp.len (Operand.tmp 15), g := none },
                              { dst := some 17,
                                op :=
                                  SOp.bin BinOp.gtr (Operand.tmp 16)
                                    (Operand.const (Value.int IntKind.i64 (Int.ofNat 0))),
                                g := none },
                              { dst := some 18, op := SOp.mov (Operand.tmp 17), g := none },
                              { dst := some 19, op := SOp.fld 0 (Operand.tmp 3), g := some (18, true) },
                              { dst := some 20, op := SOp.load1 (Operand.tmp 19), g := some (18, true) },
                              { dst := some 21, op := SOp.mov (Operand.tmp 0), g := some (18, true) },
                              { dst := some 22, op := SOp.mov (Operand.tmp 0), g := some (18, true) },
                              { dst := some 23, op := SOp.len (Operand.tmp 22), g := some (18, true) },
                              { dst := some 24,
                                op :=
                                  SOp.bin BinOp.sub (Operand.tmp 23)
                                    (Operand.const (Value.int IntKind.i64 (Int.ofNat 1))),
                                g := some (18, true) },
                              { dst := some 25, op := SOp.idx 6 (Operand.tmp 21) (Operand.tmp 24),
                                g := some (18, true) },
                              { dst := some 26, op := SOp.fld 0 (Operand.tmp 25), g := some (18, true) },
                              { dst := some 27, op := SOp.load1 (Operand.tmp 26), g := some (18, true) },
                              { dst := some 28, op := SOp.bin BinOp.leq (Operand.tmp 20) (Operand.tmp 27),
                                g := some (18, true) },
                              { dst := some 29, op := SOp.pick 18 (Operand.tmp 28) (Operand.const (Value.bool false)),
                                g := none },
                              { dst := some 14, op := SOp.mov (Operand.tmp 29), g := none }]).seq
                        (SC.cond (Operand.tmp 14)
                          ((SC.ops false
                                [{ dst := some 4, op := SOp.mov (Operand.const (Value.slice none 0 0)), g := none },
                                  { dst := some 5, op := SOp.mov (Operand.const (Value.int IntKind.i64 (Int.ofNat 5))),
                                    g := none }]).seq
                            SC.ret)
                          ((SC.ops false
                                [{ dst := some 31, op := SOp.mov (Operand.tmp 0), g := none },
                                  { dst := some 32, op := SOp.len (Operand.tmp 31), g := none },
                                  { dst := some 33,
                                    op :=
                                      SOp.bin BinOp.geq (Operand.tmp 32)
                                        (Operand.const (Value.int IntKind.i64 (Int.ofNat 64))),
                                    g := none },
                                  { dst := some 30, op := SOp.mov (Operand.tmp 33), g := none }]).seq
                            (SC.cond (Operand.tmp 30)
                              ((SC.ops false
                                    [{ dst := some 4, op := SOp.mov (Operand.const (Value.slice none 0 0)), g := none },
                                      { dst := some 5,
                                        op := SOp.mov (Operand.const (Value.int IntKind.i64 (Int.ofNat 12))),
                                        g := none }]).seq
                                SC.ret)
                              SC.skip))))))))).seq
          ((SC.opsA
                [{ dst := some 34, op := SOp.mov (Operand.tmp 0), g := none },
                  { dst := some 35, op := SOp.call 17 [Operand.tmp 34], g := none },
                  { dst := some 36, op := SOp.loadN 6 (Operand.tmp 3), g := none },
                  { dst := some 37,
                    op :=
                      SOp.buildS 31 6 1
                        [Value.int IntKind.i64 (Int.ofNat 0), Value.int IntKind.i64 (Int.ofNat 0),
                          Value.int IntKind.i64 (Int.ofNat 0), Value.int IntKind.i64 (Int.ofNat 0),
                          Value.int IntKind.i64 (Int.ofNat 0), Value.int IntKind.i64 (Int.ofNat 0)]
                        [(0, Operand.tmp 36)],
                    g := none },
                  { dst := some 38,
                    op :=
                      SOp.app 31 6 48
                        [Value.int IntKind.i64 (Int.ofNat 0), Value.int IntKind.i64 (Int.ofNat 0),
                          Value.int IntKind.i64 (Int.ofNat 0), Value.int IntKind.i64 (Int.ofNat 0),
                          Value.int IntKind.i64 (Int.ofNat 0), Value.int IntKind.i64 (Int.ofNat 0)]
                        (Operand.tmp 35) (Operand.tmp 37),
                    g := none },
                  { dst := some 4, op := SOp.mov (Operand.tmp 38), g := none },
                  { dst := some 5, op := SOp.mov (Operand.const (Value.int IntKind.i64 (Int.ofNat 0))), g := none }]
                [[], [0], [], [2], [1, 3, 1], [4, 4, 0, 1, 2, 3, 4], [5, 0, 1, 2, 3, 4, 5]]).seq
            SC.ret)),
    res := [SR.tmp 4, SR.tmp 5] }
theorem F19_ok : slimFn Try.prog hv Try.f19 = some F19 := by kernel_rfl
def F21 : Fn :=

  { N := 57,
    code :=
      (SC.ops false
            [{ dst := some 4, op := SOp.box 3 (Operand.tmp 1), g := none },
              { dst := some 6, op := SOp.mov (Operand.const (Value.slice none 0 0)), g := none },
              { dst := some 7, op := SOp.mov (Operand.const (Value.int IntKind.i64 (Int.ofNat 0))), g := none }]).seq
        (((SC.ops false
                  [{ dst := some 10, op := SOp.mov (Operand.tmp 0), g := none },
                    { dst := some 11, op := SOp.call 16 [Operand.tmp 10], g := none },
                    { dst := some 12,
                      op := SOp.bin BinOp.neq (Operand.tmp 11) (Operand.const (Value.int IntKind.i64 (Int.ofNat 0))),
                      g := none }]).seq
              (SC.cond (Operand.tmp 12)
                ((SC.ops false
                      [{ dst := some 6, op := SOp.mov (Operand.const (Value.slice none 0 0)), g := none },
                        { dst := some 7, op := SOp.mov (Operand.const (Value.int IntKind.i64 (Int.ofNat 1))),
                          g := none }]).seq
                  SC.ret)
                SC.skip)).seq
          ((SC.ops false
                [{ dst := some 13, op := SOp.mov (Operand.tmp 0), g := none },
                  { dst := some 14, op := SOp.mkfn 42 [Operand.tmp 4], g := none },
                  { dst := some 15, op := SOp.call 41 [Operand.tmp 13, Operand.tmp 14], g := none },
                  { dst := some 8, op := SOp.mov (Operand.tmp 15), g := none }]).seq
            ((SC.block 0
                  ((SC.ops false
                        [{ dst := some 17, op := SOp.mov (Operand.tmp 8), g := none },
                          { dst := some 18,
                            op :=
                              SOp.bin BinOp.lss (Operand.tmp 17) (Operand.const (Value.int IntKind.i64 (Int.ofNat 0))),
                            g := none },
                          { dst := some 16, op := SOp.mov (Operand.tmp 18), g := none }]).seq
                    (SC.cond (Operand.tmp 16)
                      ((SC.ops false
                            [{ dst := some 6, op := SOp.mov (Operand.const (Value.slice none 0 0)), g := none },
                              { dst := some 7, op := SOp.mov (Operand.const (Value.int IntKind.i64 (Int.ofNat 7))),
                                g := none }]).seq
                        SC.ret)
                      ((SC.ops false
                            [{ dst := some 20, op := SOp.mov (Operand.tmp 2), g := none },
                              { dst := some 21,
                                op :=
                                  SOp.bin BinOp.lss (Operand.tmp 20)
                                    (Operand.const (Value.int IntKind.i64 (Int.ofNat 0))),
                                g := none },
                              { dst := some 22, op := SOp.mov (Operand.tmp 21), g := none },
                              { dst := some 23, op := SOp.mov (Operand.tmp 2), g := some (22, false) },
                              { dst := some 24,
                                op :=
                                  SOp.bin BinOp.gtr (Operand.tmp 23)
                                    (Operand.const (Value.int IntKind.i64 (Int.ofNat 1048575))),
                                g := some (22, false) },
                              { dst := some 25, op := SOp.pick 22 (Operand.const (Value.bool true)) (Operand.tmp 24),
                                g := none },
                              { dst := some 19, op := SOp.mov (Operand.tmp 25), g := none }]).seq
                        (SC.cond (Operand.tmp 19)
                          ((SC.ops false
                                [{ dst := some 6, op := SOp.mov (Operand.const (Value.slice none 0 0)), g := none },
                                  { dst := some 7, op := SOp.mov (Operand.const (Value.int IntKind.i64 (Int.ofNat 2))),
                                    g := none }]).seq
                            SC.ret)
                          ((SC.ops false
                                [{ dst := some 27, op := SOp.mov (Operand.tmp 2), g := none },
                                  { dst := some 28, op := SOp.mov (Operand.tmp 0), g := none },
                                  { dst := some 29, op := SOp.mov (Operand.tmp 8), g := none },
                                  { dst := some 30, op := SOp.idx 6 (Operand.tmp 28) (Operand.tmp 29), g := none },
                                  { dst := some 31, op := SOp.fld 4 (Operand.tmp 30), g := none },
                                  { dst := some 32, op := SOp.fld 1 (Operand.tmp 31), g := none },
                                  { dst := some 33, op := SOp.load1 (Operand.tmp 32), g := none },
                                  { dst := some 34, op := SOp.bin BinOp.geq (Operand.tmp 27) (Operand.tmp 33),
                                    g := none },
                                  { dst := some 26, op := SOp.mov (Operand.tmp 34), g := none }]).seq
                            (SC.cond (Operand.tmp 26)
                              ((SC.ops false
                                    [{ dst := some 6, op := SOp.mov (Operand.const (Value.slice none 0 0)), g := none },
                                      { dst := some 7,
                                        op := SOp.mov (Operand.const (Value.int IntKind.i64 (Int.ofNat 11))),
                                        g := none }]).seq
                                SC.ret)
                              SC.skip))))))).seq
              ((SC.ops false
                    [{ dst := some 35, op := SOp.mov (Operand.tmp 0), g := none },
                      { dst := some 36, op := SOp.call 17 [Operand.tmp 35], g := none },
                      { dst := some 9, op := SOp.mov (Operand.tmp 36), g := none }]).seq
                (((SC.ops false
                          [{ dst := some 37, op := SOp.mov (Operand.tmp 2), g := none },
                            { dst := some 38, op := SOp.mov (Operand.tmp 9), g := none },
                            { dst := some 39, op := SOp.mov (Operand.tmp 8), g := none },
                            { dst := some 40, op := SOp.idx 6 (Operand.tmp 38) (Operand.tmp 39), g := none },
                            { dst := some 41, op := SOp.fld 4 (Operand.tmp 40), g := none },
                            { dst := some 42, op := SOp.fld 0 (Operand.tmp 41), g := none },
                            { dst := some 43, op := SOp.load1 (Operand.tmp 42), g := none },
                            { dst := some 44, op := SOp.bin BinOp.leq (Operand.tmp 37) (Operand.tmp 43),
                              g := none }]).seq
                      (SC.cond (Operand.tmp 44)
                        ((SC.ops false
                              [{ dst := some 45, op := SOp.mov (Operand.tmp 9), g := none },
                                { dst := some 46, op := SOp.mov (Operand.tmp 8), g := none },
                                { dst := some 47, op := SOp.mov (Operand.tmp 8), g := none },
                                { dst := some 48,
                                  op :=
                                    SOp.bin BinOp.add (Operand.tmp 47)
                                      (Operand.const (Value.int IntKind.i64 (Int.ofNat 1))),
                                  g := none },
                                { dst := some 49, op := SOp.call 43 [Operand.tmp 45, Operand.tmp 46, Operand.tmp 48],
                                  g := none },
                                { dst := some 6, op := SOp.mov (Operand.tmp 49), g := none },
                                { dst := some 7, op := SOp.mov (Operand.const (Value.int IntKind.i64 (Int.ofNat 0))),
                                  g := none }]).seq
                          SC.ret)
                        SC.skip)).seq
                  ((SC.ops false
                        [{ dst := some 50, op := SOp.mov (Operand.tmp 9), g := none },
                          { dst := some 51, op := SOp.mov (Operand.tmp 8), g := none },
                          { dst := some 52, op := SOp.mov (Operand.tmp 2), g := none },
                          { dst := some 53, op := SOp.idx 6 (Operand.tmp 50) (Operand.tmp 51), g := none },
                          { dst := some 54, op := SOp.fld 4 (Operand.tmp 53), g := none },
                          { dst := some 55, op := SOp.fld 1 (Operand.tmp 54), g := none },
                          { dst := none, op := SOp.store 1 (Operand.tmp 55) (Operand.tmp 52), g := none }]).seq
                    ((SC.ops false
                          [{ dst := some 56, op := SOp.mov (Operand.tmp 9), g := none },
                            { dst := some 6, op := SOp.mov (Operand.tmp 56), g := none },
                            { dst := some 7, op := SOp.mov (Operand.const (Value.int IntKind.i64 (Int.ofNat 0))),
                              g := none }]).seq
                      SC.ret))))))),
    res := [SR.tmp 6, SR.tmp 7] }
theorem F21_ok : slimFn Try.prog hv Try.f21 = some F21 := by kernel_rfl
def F24 : Fn :=

  { N := 28,
    code :=
      (SC.ops false
            [{ dst := some 6, op := SOp.box 3 (Operand.tmp 1), g := none },
              { dst := some 7, op := SOp.box 23 (Operand.tmp 2), g := none },
              { dst := some 8, op := SOp.box 3 (Operand.tmp 3), g := none },
              { dst := some 9, op := SOp.box 3 (Operand.tmp 4), g := none },
              { dst := some 10, op := SOp.mov (Operand.const (Value.int IntKind.i64 (Int.ofNat 0))), g := none },
              { dst := some 11, op := SOp.mov (Operand.const (Value.bool false)), g := none }]).seq
        ((SC.ops false
              [{ dst := some 13, op := SOp.mov (Operand.tmp 0), g := none },
                { dst := some 14, op := SOp.mkfn 44 [Operand.tmp 6, Operand.tmp 7, Operand.tmp 8, Operand.tmp 9],
                  g := none },
                { dst := some 15, op := SOp.call 41 [Operand.tmp 13, Operand.tmp 14], g := none },
                { dst := some 12, op := SOp.mov (Operand.tmp 15), g := none }]).seq
          (((SC.ops false
                    [{ dst := some 16, op := SOp.mov (Operand.tmp 12), g := none },
                      { dst := some 17,
                        op := SOp.bin BinOp.lss (Operand.tmp 16) (Operand.const (Value.int IntKind.i64 (Int.ofNat 0))),
                        g := none },
                      { dst := some 18, op := SOp.mov (Operand.tmp 17), g := none },
                      { dst := some 19, op := SOp.mov (Operand.tmp 0), g := some (18, false) },
                      { dst := some 20, op := SOp.call 16 [Operand.tmp 19], g := some (18, false) },
                      { dst := some 21,
                        op := SOp.bin BinOp.neq (Operand.tmp 20) (Operand.const (Value.int IntKind.i64 (Int.ofNat 0))),
                        g := some (18, false) },
                      { dst := some 22, op := SOp.pick 18 (Operand.const (Value.bool true)) (Operand.tmp 21),
                        g := none }]).seq
                (SC.cond (Operand.tmp 22)
                  ((SC.ops false
                        [{ dst := some 10, op := SOp.mov (Operand.const (Value.int IntKind.i64 (Int.ofNat 0))),
                            g := none },
                          { dst := some 11, op := SOp.mov (Operand.const (Value.bool false)), g := none }]).seq
                    SC.ret)
                  SC.skip)).seq
            ((SC.ops false
                  [{ dst := some 23, op := SOp.mov (Operand.tmp 0), g := none },
                    { dst := some 24, op := SOp.mov (Operand.tmp 12), g := none },
                    { dst := some 25, op := SOp.idx 6 (Operand.tmp 23) (Operand.tmp 24), g := none },
                    { dst := some 26, op := SOp.fld 0 (Operand.tmp 25), g := none },
                    { dst := some 27, op := SOp.load1 (Operand.tmp 26), g := none },
                    { dst := some 10, op := SOp.mov (Operand.tmp 27), g := none },
                    { dst := some 11, op := SOp.mov (Operand.const (Value.bool true)), g := none }]).seq
              SC.ret))),
    res := [SR.tmp 10, SR.tmp 11] }
theorem F24_ok : slimFn Try.prog hv Try.f24 = some F24 := by kernel_rfl
def F28 : Fn :=

  { N := 36,
    code :=
      (SC.ops false [{ dst := some 2, op := SOp.mov (Operand.const (Value.slice none 0 0)), g := none }]).seq
        ((SC.ops false
              [{ dst := some 3, op := SOp.mov (Operand.const (Value.int IntKind.i64 (Int.ofNat 0))), g := none }]).seq
          (((SC.ops false
                    [{ dst := some 9, op := SOp.mov (Operand.tmp 0), g := none },
                      { dst := some 10, op := SOp.len (Operand.tmp 9), g := none },
                      { dst := some 11, op := SOp.mov (Operand.const (Value.int IntKind.i64 (Int.ofNat 0))),
                        g := none }]).seq
                (SC.block 0
                  ((SC.ops false
                          [{ dst := some 12, op := SOp.bin BinOp.lss (Operand.tmp 11) (Operand.tmp 10),
                              g := none }]).seq
                      ((SC.cond (Operand.tmp 12) SC.skip (SC.exit 0)).seq
                        ((SC.block 1
                              ((SC.ops false
                                    [{ dst := some 13, op := SOp.idx 1 (Operand.tmp 9) (Operand.tmp 11), g := none },
                                      { dst := some 14, op := SOp.load1 (Operand.tmp 13), g := none },
                                      { dst := some 5, op := SOp.mov (Operand.tmp 14), g := none }]).seq
                                ((SC.ops false
                                      [{ dst := some 15, op := SOp.mov (Operand.tmp 3), g := none },
                                        { dst := some 16, op := SOp.mov (Operand.tmp 5), g := none },
                                        { dst := some 17, op := SOp.len (Operand.tmp 16), g := none },
                                        { dst := some 18, op := SOp.bin BinOp.add (Operand.tmp 15) (Operand.tmp 17),
                                          g := none },
                                        { dst := some 3, op := SOp.mov (Operand.tmp 18), g := none }]).seq
                                  ((SC.ops false
                                        [{ dst := some 19, op := SOp.mov (Operand.tmp 3), g := none },
                                          { dst := some 20,
                                            op :=
                                              SOp.bin BinOp.lss (Operand.tmp 19)
                                                (Operand.const (Value.int IntKind.i64 (Int.ofNat 0))),
                                            g := none }]).seq
                                    (SC.cond (Operand.tmp 20)
                                      (SC.ops false
                                        [{ dst := some 21, op := SOp.bad [], g := none },
                                          { dst := none, op := SOp.bad [Operand.tmp 21], g := none }])
                                      SC.skip))))).seq
                          (SC.ops false
                            [{ dst := some 22,
                                op :=
                                  SOp.bin BinOp.add (Operand.tmp 11)
                                    (Operand.const (Value.int IntKind.i64 (Int.ofNat 1))),
                                g := none },
                              { dst := some 11, op := SOp.mov (Operand.tmp 22), g := none }])))).loop)).seq
            ((SC.ops false
                  [{ dst := some 23, op := SOp.mov (Operand.tmp 3), g := none },
                    { dst := some 24, op := SOp.call 45 [Operand.const (Value.slice none 0 0), Operand.tmp 23],
                      g := none },
                    { dst := some 6, op := SOp.mov (Operand.tmp 24), g := none }]).seq
              (((SC.ops false
                        [{ dst := some 25, op := SOp.mov (Operand.tmp 0), g := none },
                          { dst := some 26, op := SOp.len (Operand.tmp 25), g := none },
                          { dst := some 27, op := SOp.mov (Operand.const (Value.int IntKind.i64 (Int.ofNat 0))),
                            g := none }]).seq
                    (SC.block 2
                      ((SC.ops false
                              [{ dst := some 28, op := SOp.bin BinOp.lss (Operand.tmp 27) (Operand.tmp 26),
                                  g := none }]).seq
                          ((SC.cond (Operand.tmp 28) SC.skip (SC.exit 2)).seq
                            ((SC.block 3
                                  ((SC.ops false
                                        [{ dst := some 29, op := SOp.idx 1 (Operand.tmp 25) (Operand.tmp 27),
                                            g := none },
                                          { dst := some 30, op := SOp.load1 (Operand.tmp 29), g := none },
                                          { dst := some 8, op := SOp.mov (Operand.tmp 30), g := none }]).seq
                                    (SC.ops false
                                      [{ dst := some 31, op := SOp.mov (Operand.tmp 6), g := none },
                                        { dst := some 32, op := SOp.mov (Operand.tmp 8), g := none },
                                        { dst := some 33,
                                          op :=
                                            SOp.app 3 1 8 [Value.int IntKind.i64 (Int.ofNat 0)] (Operand.tmp 31)
                                              (Operand.tmp 32),
                                          g := none },
                                        { dst := some 6, op := SOp.mov (Operand.tmp 33), g := none }]))).seq
                              (SC.ops false
                                [{ dst := some 34,
                                    op :=
                                      SOp.bin BinOp.add (Operand.tmp 27)
                                        (Operand.const (Value.int IntKind.i64 (Int.ofNat 1))),
                                    g := none },
                                  { dst := some 27, op := SOp.mov (Operand.tmp 34), g := none }])))).loop)).seq
                ((SC.ops false
                      [{ dst := some 35, op := SOp.mov (Operand.tmp 6), g := none },
                        { dst := some 2, op := SOp.mov (Operand.tmp 35), g := none }]).seq
                  SC.ret))))),
    res := [SR.tmp 2] }
theorem F28_ok : slimFn Try.prog hv Try.f28 = some F28 := by kernel_rfl
def F29 : Fn :=

  { N := 9,
    code :=
      (SC.ops false [{ dst := some 4, op := SOp.mov (Operand.const (Value.bool false)), g := none }]).seq
        ((SC.ops false
              [{ dst := some 5, op := SOp.mov (Operand.tmp 0), g := none },
                { dst := some 6, op := SOp.mov (Operand.tmp 1), g := none },
                { dst := some 7, op := SOp.call 46 [Operand.tmp 5, Operand.tmp 6], g := none },
                { dst := some 8,
                  op := SOp.bin BinOp.geq (Operand.tmp 7) (Operand.const (Value.int IntKind.i64 (Int.ofNat 0))),
                  g := none },
                { dst := some 4, op := SOp.mov (Operand.tmp 8), g := none }]).seq
          SC.ret),
    res := [SR.tmp 4] }
theorem F29_ok : slimFn Try.prog hv Try.f29 = some F29 := by kernel_rfl
def F35 : Fn :=

  { N := 29,
    code :=
      (SC.ops false
            [{ dst := some 3, op := SOp.box 31 (Operand.tmp 0), g := none },
              { dst := some 6, op := SOp.mov (Operand.const (Value.bool false)), g := none }]).seq
        ((SC.ops false
              [{ dst := some 7, op := SOp.loadN 6 (Operand.tmp 3), g := none },
                { dst := some 8, op := SOp.call 40 [Operand.tmp 7], g := none },
                { dst := some 9, op := SOp.mov (Operand.tmp 8), g := none },
                { dst := some 10, op := SOp.mov (Operand.tmp 1), g := some (9, true) },
                { dst := some 11, op := SOp.fld 2 (Operand.tmp 3), g := some (9, true) },
                { dst := some 12, op := SOp.load1 (Operand.tmp 11), g := some (9, true) },
                { dst := some 13, op := SOp.call 29 [Operand.tmp 10, Operand.tmp 12], g := some (9, true) },
                { dst := some 14, op := SOp.pick 9 (Operand.tmp 13) (Operand.const (Value.bool false)), g := none },
                { dst := some 15, op := SOp.mov (Operand.tmp 14), g := none },
                { dst := some 16, op := SOp.fld 4 (Operand.tmp 3), g := some (15, true) },
                { dst := some 17, op := SOp.fld 0 (Operand.tmp 16), g := some (15, true) },
                { dst := some 18, op := SOp.load1 (Operand.tmp 17), g := some (15, true) },
                { dst := some 19, op := SOp.mov (Operand.tmp 2), g := some (15, true) },
                { dst := some 20, op := SOp.bin BinOp.leq (Operand.tmp 18) (Operand.tmp 19), g := some (15, true) },
                { dst := some 21, op := SOp.pick 15 (Operand.tmp 20) (Operand.const (Value.bool false)), g := none },
                { dst := some 22, op := SOp.mov (Operand.tmp 21), g := none },
                { dst := some 23, op := SOp.mov (Operand.tmp 2), g := some (22, true) },
                { dst := some 24, op := SOp.fld 4 (Operand.tmp 3), g := some (22, true) },
                { dst := some 25, op := SOp.fld 1 (Operand.tmp 24), g := some (22, true) },
                { dst := some 26, op := SOp.load1 (Operand.tmp 25), g := some (22, true) },
                { dst := some 27, op := SOp.bin BinOp.lss (Operand.tmp 23) (Operand.tmp 26), g := some (22, true) },
                { dst := some 28, op := SOp.pick 22 (Operand.tmp 27) (Operand.const (Value.bool false)), g := none },
                { dst := some 6, op := SOp.mov (Operand.tmp 28), g := none }]).seq
          SC.ret),
    res := [SR.tmp 6] }
theorem F35_ok : slimFn Try.prog hv Try.f35 = some F35 := by kernel_rfl
def F36 : Fn :=

  { N := 20,
    code :=
      (SC.ops false
            [{ dst := some 2, op := SOp.box 31 (Operand.tmp 0), g := none },
              { dst := some 4, op := SOp.mov (Operand.const (Value.bool false)), g := none }]).seq
        ((SC.ops false
              [{ dst := some 5, op := SOp.mov (Operand.tmp 1), g := none },
                { dst := some 6,
                  op := SOp.bin BinOp.geq (Operand.tmp 5) (Operand.const (Value.int IntKind.i64 (Int.ofNat 1))),
                  g := none },
                { dst := some 7, op := SOp.mov (Operand.tmp 6), g := none },
                { dst := some 8, op := SOp.mov (Operand.tmp 1), g := some (7, true) },
                { dst := some 9,
                  op := SOp.bin BinOp.leq (Operand.tmp 8) (Operand.const (Value.int IntKind.i64 (Int.ofNat 3))),
                  g := some (7, true) },
                { dst := some 10, op := SOp.pick 7 (Operand.tmp 9) (Operand.const (Value.bool false)), g := none },
                { dst := some 11, op := SOp.mov (Operand.tmp 10), g := none },
                { dst := some 12, op := SOp.fld 3 (Operand.tmp 2), g := some (11, true) },
                { dst := some 13, op := SOp.load1 (Operand.tmp 12), g := some (11, true) },
                { dst := some 14, op := SOp.mov (Operand.tmp 1), g := some (11, true) },
                { dst := some 15,
                  op := SOp.bin BinOp.sub (Operand.tmp 14) (Operand.const (Value.int IntKind.i64 (Int.ofNat 1))),
                  g := some (11, true) },
                { dst := some 16, op := SOp.bin BinOp.shr (Operand.tmp 13) (Operand.tmp 15), g := some (11, true) },
                { dst := some 17,
                  op := SOp.bin BinOp.and (Operand.tmp 16) (Operand.const (Value.int IntKind.i64 (Int.ofNat 1))),
                  g := some (11, true) },
                { dst := some 18,
                  op := SOp.bin BinOp.eql (Operand.tmp 17) (Operand.const (Value.int IntKind.i64 (Int.ofNat 1))),
                  g := some (11, true) },
                { dst := some 19, op := SOp.pick 11 (Operand.tmp 18) (Operand.const (Value.bool false)), g := none },
                { dst := some 4, op := SOp.mov (Operand.tmp 19), g := none }]).seq
          SC.ret),
    res := [SR.tmp 4] }
theorem F36_ok : slimFn Try.prog hv Try.f36 = some F36 := by kernel_rfl
def F37 : Fn :=

  { N := 8,
    code :=
      (SC.ops false [{ dst := some 2, op := SOp.mov (Operand.const (Value.slice none 0 0)), g := none }]).seq
        (((SC.ops false
                  [{ dst := some 3, op := SOp.mov (Operand.tmp 0), g := none },
                    { dst := some 4, op := SOp.isnil false (Operand.tmp 3), g := none }]).seq
              (SC.cond (Operand.tmp 4)
                ((SC.ops false [{ dst := some 2, op := SOp.mov (Operand.const (Value.slice none 0 0)), g := none }]).seq
                  SC.ret)
                SC.skip)).seq
          ((SC.ops false
                [{ dst := some 5, op := SOp.buildS 3 1 0 [Value.int IntKind.i64 (Int.ofNat 0)] [], g := none },
                  { dst := some 6, op := SOp.mov (Operand.tmp 0), g := none },
                  { dst := some 7,
                    op := SOp.app 3 1 8 [Value.int IntKind.i64 (Int.ofNat 0)] (Operand.tmp 5) (Operand.tmp 6),
                    g := none },
                  { dst := some 2, op := SOp.mov (Operand.tmp 7), g := none }]).seq
            SC.ret)),
    res := [SR.tmp 2] }
theorem F37_ok : slimFn Try.prog hv Try.f37 = some F37 := by kernel_rfl
def F38 : Fn :=

  { N := 46,
    code :=
      (SC.ops false
            [{ dst := some 1, op := SOp.box 31 (Operand.tmp 0), g := none },
              { dst := some 2, op := SOp.mov (Operand.const (Value.bool false)), g := none }]).seq
        ((SC.ops false
              [{ dst := some 3, op := SOp.fld 0 (Operand.tmp 1), g := none },
                { dst := some 4, op := SOp.load1 (Operand.tmp 3), g := none },
                { dst := some 5,
                  op := SOp.bin BinOp.geq (Operand.tmp 4) (Operand.const (Value.int IntKind.i64 (Int.ofNat 1))),
                  g := none },
                { dst := some 6, op := SOp.mov (Operand.tmp 5), g := none },
                { dst := some 7, op := SOp.fld 0 (Operand.tmp 1), g := some (6, true) },
                { dst := some 8, op := SOp.load1 (Operand.tmp 7), g := some (6, true) },
                { dst := some 9,
                  op :=
                    SOp.bin BinOp.leq (Operand.tmp 8) (Operand.const (Value.int IntKind.i64 (Int.ofNat 1073741824))),
                  g := some (6, true) },
                { dst := some 10, op := SOp.pick 6 (Operand.tmp 9) (Operand.const (Value.bool false)), g := none },
                { dst := some 11, op := SOp.mov (Operand.tmp 10), g := none },
                { dst := some 12, op := SOp.fld 1 (Operand.tmp 1), g := some (11, true) },
                { dst := some 13, op := SOp.load1 (Operand.tmp 12), g := some (11, true) },
                { dst := some 14,
                  op := SOp.bin BinOp.geq (Operand.tmp 13) (Operand.const (Value.int IntKind.i64 (Int.ofNat 1))),
                  g := some (11, true) },
                { dst := some 15, op := SOp.pick 11 (Operand.tmp 14) (Operand.const (Value.bool false)), g := none },
                { dst := some 16, op := SOp.mov (Operand.tmp 15), g := none },
                { dst := some 17, op := SOp.fld 1 (Operand.tmp 1), g := some (16, true) },
                { dst := some 18, op := SOp.load1 (Operand.tmp 17), g := some (16, true) },
                { dst := some 19,
                  op :=
                    SOp.bin BinOp.leq (Operand.tmp 18) (Operand.const (Value.int IntKind.i64 (Int.ofNat 1073741824))),
                  g := some (16, true) },
                { dst := some 20, op := SOp.pick 16 (Operand.tmp 19) (Operand.const (Value.bool false)), g := none },
                { dst := some 21, op := SOp.mov (Operand.tmp 20), g := none },
                { dst := some 22, op := SOp.fld 2 (Operand.tmp 1), g := some (21, true) },
                { dst := some 23, op := SOp.load1 (Operand.tmp 22), g := some (21, true) },
                { dst := some 24,
                  op := SOp.bin BinOp.geq (Operand.tmp 23) (Operand.const (Value.int IntKind.i64 (Int.ofNat 1))),
                  g := some (21, true) },
                { dst := some 25, op := SOp.pick 21 (Operand.tmp 24) (Operand.const (Value.bool false)), g := none },
                { dst := some 26, op := SOp.mov (Operand.tmp 25), g := none },
                { dst := some 27, op := SOp.fld 2 (Operand.tmp 1), g := some (26, true) },
                { dst := some 28, op := SOp.load1 (Operand.tmp 27), g := some (26, true) },
                { dst := some 29,
                  op :=
                    SOp.bin BinOp.leq (Operand.tmp 28) (Operand.const (Value.int IntKind.i64 (Int.ofNat 1073741824))),
                  g := some (26, true) },
                { dst := some 30, op := SOp.pick 26 (Operand.tmp 29) (Operand.const (Value.bool false)), g := none },
                { dst := some 31, op := SOp.mov (Operand.tmp 30), g := none },
                { dst := some 32, op := SOp.fld 3 (Operand.tmp 1), g := some (31, true) },
                { dst := some 33, op := SOp.load1 (Operand.tmp 32), g := some (31, true) },
                { dst := some 34,
                  op := SOp.bin BinOp.geq (Operand.tmp 33) (Operand.const (Value.int IntKind.i64 (Int.ofNat 1))),
                  g := some (31, true) },
                { dst := some 35, op := SOp.pick 31 (Operand.tmp 34) (Operand.const (Value.bool false)), g := none },
                { dst := some 36, op := SOp.mov (Operand.tmp 35), g := none },
                { dst := some 37, op := SOp.fld 3 (Operand.tmp 1), g := some (36, true) },
                { dst := some 38, op := SOp.load1 (Operand.tmp 37), g := some (36, true) },
                { dst := some 39,
                  op := SOp.bin BinOp.leq (Operand.tmp 38) (Operand.const (Value.int IntKind.i64 (Int.ofNat 7))),
                  g := some (36, true) },
                { dst := some 40, op := SOp.pick 36 (Operand.tmp 39) (Operand.const (Value.bool false)), g := none },
                { dst := some 41, op := SOp.mov (Operand.tmp 40), g := none },
                { dst := some 42, op := SOp.fld 4 (Operand.tmp 1), g := some (41, true) },
                { dst := some 43, op := SOp.loadN 2 (Operand.tmp 42), g := some (41, true) },
                { dst := some 44, op := SOp.call 49 [Operand.tmp 43], g := some (41, true) },
                { dst := some 45, op := SOp.pick 41 (Operand.tmp 44) (Operand.const (Value.bool false)), g := none },
                { dst := some 2, op := SOp.mov (Operand.tmp 45), g := none }]).seq
          SC.ret),
    res := [SR.tmp 2] }
theorem F38_ok : slimFn Try.prog hv Try.f38 = some F38 := by kernel_rfl
def F39 : Fn :=

  { N := 17,
    code :=
      (SC.ops false [{ dst := some 4, op := SOp.mov (Operand.const (Value.bool false)), g := none }]).seq
        (((SC.ops false
                  [{ dst := some 7, op := SOp.mov (Operand.tmp 0), g := none },
                    { dst := some 8, op := SOp.len (Operand.tmp 7), g := none },
                    { dst := some 9, op := SOp.mov (Operand.const (Value.int IntKind.i64 (Int.ofNat 0))),
                      g := none }]).seq
              (SC.block 0
                ((SC.ops false
                        [{ dst := some 10, op := SOp.bin BinOp.lss (Operand.tmp 9) (Operand.tmp 8), g := none }]).seq
                    ((SC.cond (Operand.tmp 10) SC.skip (SC.exit 0)).seq
                      ((SC.block 1
                            ((SC.ops false
                                  [{ dst := some 11, op := SOp.idx 1 (Operand.tmp 7) (Operand.tmp 9), g := none },
                                    { dst := some 12, op := SOp.load1 (Operand.tmp 11), g := none },
                                    { dst := some 6, op := SOp.mov (Operand.tmp 12), g := none }]).seq
                              ((SC.ops false
                                    [{ dst := some 13, op := SOp.mov (Operand.tmp 6), g := none },
                                      { dst := some 14, op := SOp.mov (Operand.tmp 1), g := none },
                                      { dst := some 15, op := SOp.bin BinOp.eql (Operand.tmp 13) (Operand.tmp 14),
                                        g := none }]).seq
                                (SC.cond (Operand.tmp 15)
                                  ((SC.ops false
                                        [{ dst := some 4, op := SOp.mov (Operand.const (Value.bool true)),
                                            g := none }]).seq
                                    SC.ret)
                                  SC.skip)))).seq
                        (SC.ops false
                          [{ dst := some 16,
                              op :=
                                SOp.bin BinOp.add (Operand.tmp 9) (Operand.const (Value.int IntKind.i64 (Int.ofNat 1))),
                              g := none },
                            { dst := some 9, op := SOp.mov (Operand.tmp 16), g := none }])))).loop)).seq
          ((SC.ops false [{ dst := some 4, op := SOp.mov (Operand.const (Value.bool false)), g := none }]).seq SC.ret)),
    res := [SR.tmp 4] }
theorem F39_ok : slimFn Try.prog hv Try.f39 = some F39 := by kernel_rfl
def F40 : Fn :=

  { N := 47,
    code :=
      (SC.ops false
            [{ dst := some 1, op := SOp.box 31 (Operand.tmp 0), g := none },
              { dst := some 2, op := SOp.mov (Operand.const (Value.bool false)), g := none }]).seq
        ((SC.ops false
              [{ dst := some 3, op := SOp.fld 0 (Operand.tmp 1), g := none },
                { dst := some 4, op := SOp.load1 (Operand.tmp 3), g := none },
                { dst := some 5, op := SOp.call 50 [Operand.tmp 4], g := none },
                { dst := some 6, op := SOp.mov (Operand.tmp 5), g := none },
                { dst := some 7, op := SOp.fld 1 (Operand.tmp 1), g := some (6, true) },
                { dst := some 8, op := SOp.load1 (Operand.tmp 7), g := some (6, true) },
                { dst := some 9, op := SOp.call 50 [Operand.tmp 8], g := some (6, true) },
                { dst := some 10, op := SOp.pick 6 (Operand.tmp 9) (Operand.const (Value.bool false)), g := none },
                { dst := some 11, op := SOp.mov (Operand.tmp 10), g := none },
                { dst := some 12, op := SOp.fld 2 (Operand.tmp 1), g := some (11, true) },
                { dst := some 13, op := SOp.load1 (Operand.tmp 12), g := some (11, true) },
                { dst := some 14, op := SOp.call 50 [Operand.tmp 13], g := some (11, true) },
                { dst := some 15, op := SOp.pick 11 (Operand.tmp 14) (Operand.const (Value.bool false)), g := none },
                { dst := some 16, op := SOp.mov (Operand.tmp 15), g := none },
                { dst := some 17, op := SOp.fld 3 (Operand.tmp 1), g := some (16, true) },
                { dst := some 18, op := SOp.load1 (Operand.tmp 17), g := some (16, true) },
                { dst := some 19,
                  op := SOp.bin BinOp.geq (Operand.tmp 18) (Operand.const (Value.int IntKind.i64 (Int.ofNat 1))),
                  g := some (16, true) },
                { dst := some 20, op := SOp.pick 16 (Operand.tmp 19) (Operand.const (Value.bool false)), g := none },
                { dst := some 21, op := SOp.mov (Operand.tmp 20), g := none },
                { dst := some 22, op := SOp.fld 3 (Operand.tmp 1), g := some (21, true) },
                { dst := some 23, op := SOp.load1 (Operand.tmp 22), g := some (21, true) },
                { dst := some 24,
                  op := SOp.bin BinOp.leq (Operand.tmp 23) (Operand.const (Value.int IntKind.i64 (Int.ofNat 7))),
                  g := some (21, true) },
                { dst := some 25, op := SOp.pick 21 (Operand.tmp 24) (Operand.const (Value.bool false)), g := none },
                { dst := some 26, op := SOp.mov (Operand.tmp 25), g := none },
                { dst := some 27, op := SOp.fld 4 (Operand.tmp 1), g := some (26, true) },
                { dst := some 28, op := SOp.fld 0 (Operand.tmp 27), g := some (26, true) },
                { dst := some 29, op := SOp.load1 (Operand.tmp 28), g := some (26, true) },
                { dst := some 30,
                  op := SOp.bin BinOp.geq (Operand.tmp 29) (Operand.const (Value.int IntKind.i64 (Int.ofNat 0))),
                  g := some (26, true) },
                { dst := some 31, op := SOp.pick 26 (Operand.tmp 30) (Operand.const (Value.bool false)), g := none },
                { dst := some 32, op := SOp.mov (Operand.tmp 31), g := none },
                { dst := some 33, op := SOp.fld 4 (Operand.tmp 1), g := some (32, true) },
                { dst := some 34, op := SOp.fld 0 (Operand.tmp 33), g := some (32, true) },
                { dst := some 35, op := SOp.load1 (Operand.tmp 34), g := some (32, true) },
                { dst := some 36, op := SOp.fld 4 (Operand.tmp 1), g := some (32, true) },
                { dst := some 37, op := SOp.fld 1 (Operand.tmp 36), g := some (32, true) },
                { dst := some 38, op := SOp.load1 (Operand.tmp 37), g := some (32, true) },
                { dst := some 39, op := SOp.bin BinOp.lss (Operand.tmp 35) (Operand.tmp 38), g := some (32, true) },
                { dst := some 40, op := SOp.pick 32 (Operand.tmp 39) (Operand.const (Value.bool false)), g := none },
                { dst := some 41, op := SOp.mov (Operand.tmp 40), g := none },
                { dst := some 42, op := SOp.fld 4 (Operand.tmp 1), g := some (41, true) },
                { dst := some 43, op := SOp.fld 1 (Operand.tmp 42), g := some (41, true) },
                { dst := some 44, op := SOp.load1 (Operand.tmp 43), g := some (41, true) },
                { dst := some 45,
                  op := SOp.bin BinOp.leq (Operand.tmp 44) (Operand.const (Value.int IntKind.i64 (Int.ofNat 1048576))),
                  g := some (41, true) },
                { dst := some 46, op := SOp.pick 41 (Operand.tmp 45) (Operand.const (Value.bool false)), g := none },
                { dst := some 2, op := SOp.mov (Operand.tmp 46), g := none }]).seq
          SC.ret),
    res := [SR.tmp 2] }
theorem F40_ok : slimFn Try.prog hv Try.f40 = some F40 := by kernel_rfl
def F41 : Fn :=

  { N := 19,
    code :=
      (SC.ops false
            [{ dst := some 4, op := SOp.mov (Operand.const (Value.int IntKind.i64 (Int.ofNat 0))), g := none }]).seq
        (((SC.ops false
                  [{ dst := some 6, op := SOp.mov (Operand.tmp 0), g := none },
                    { dst := some 7, op := SOp.len (Operand.tmp 6), g := none },
                    { dst := some 8, op := SOp.mov (Operand.const (Value.int IntKind.i64 (Int.ofNat 0))),
                      g := none }]).seq
              (SC.block 0
                ((SC.ops false
                        [{ dst := some 9, op := SOp.bin BinOp.lss (Operand.tmp 8) (Operand.tmp 7), g := none }]).seq
                    ((SC.cond (Operand.tmp 9) SC.skip (SC.exit 0)).seq
                      ((SC.block 1
                            ((SC.ops false
                                  [{ dst := some 10, op := SOp.mov (Operand.tmp 8), g := none },
                                    { dst := some 5, op := SOp.mov (Operand.tmp 10), g := none }]).seq
                              ((SC.ops false
                                    [{ dst := some 11, op := SOp.mov (Operand.tmp 1), g := none },
                                      { dst := some 12, op := SOp.mov (Operand.tmp 0), g := none },
                                      { dst := some 13, op := SOp.mov (Operand.tmp 5), g := none },
                                      { dst := some 14, op := SOp.idx 6 (Operand.tmp 12) (Operand.tmp 13), g := none },
                                      { dst := some 15, op := SOp.loadN 6 (Operand.tmp 14), g := none },
                                      { dst := some 16, op := SOp.callv (Operand.tmp 11) [Operand.tmp 15],
                                        g := none }]).seq
                                (SC.cond (Operand.tmp 16)
                                  ((SC.ops false
                                        [{ dst := some 17, op := SOp.mov (Operand.tmp 5), g := none },
                                          { dst := some 4, op := SOp.mov (Operand.tmp 17), g := none }]).seq
                                    SC.ret)
                                  SC.skip)))).seq
                        (SC.ops false
                          [{ dst := some 18,
                              op :=
                                SOp.bin BinOp.add (Operand.tmp 8) (Operand.const (Value.int IntKind.i64 (Int.ofNat 1))),
                              g := none },
                            { dst := some 8, op := SOp.mov (Operand.tmp 18), g := none }])))).loop)).seq
          ((SC.ops false
                [{ dst := some 4, op := SOp.mov (Operand.const (Value.int IntKind.i64 (Int.negSucc 0))),
                    g := none }]).seq
            SC.ret)),
    res := [SR.tmp 4] }
theorem F41_ok : slimFn Try.prog hv Try.f41 = some F41 := by kernel_rfl
def F42 : Fn :=

  { N := 8,
    code :=
      (SC.ops false
            [{ dst := some 2, op := SOp.box 31 (Operand.tmp 0), g := none },
              { dst := some 3, op := SOp.mov (Operand.const (Value.bool false)), g := none }]).seq
        ((SC.ops false
              [{ dst := some 4, op := SOp.fld 0 (Operand.tmp 2), g := none },
                { dst := some 5, op := SOp.load1 (Operand.tmp 4), g := none },
                { dst := some 6, op := SOp.load1 (Operand.tmp 1), g := none },
                { dst := some 7, op := SOp.bin BinOp.eql (Operand.tmp 5) (Operand.tmp 6), g := none },
                { dst := some 3, op := SOp.mov (Operand.tmp 7), g := none }]).seq
          SC.ret),
    res := [SR.tmp 3] }
theorem F42_ok : slimFn Try.prog hv Try.f42 = some F42 := by kernel_rfl
def F43 : Fn :=

  { N := 33,
    code :=
      (SC.ops false [{ dst := some 6, op := SOp.mov (Operand.const (Value.slice none 0 0)), g := none }]).seq
        ((SC.ops false
              [{ dst := some 8, op := SOp.mov (Operand.tmp 0), g := none },
                { dst := some 9, op := SOp.mov (Operand.tmp 1), g := none },
                { dst := some 10, op := SOp.mov (Operand.tmp 2), g := none },
                { dst := some 11, op := SOp.mov (Operand.tmp 0), g := none },
                { dst := some 12, op := SOp.len (Operand.tmp 11), g := none },
                { dst := some 13,
                  op := SOp.slice3 6 (Operand.tmp 8) (some (Operand.tmp 9)) (some (Operand.tmp 10)) (Operand.tmp 12),
                  g := none }]).seq
          (((SC.ops false
                    [{ dst := some 14, op := SOp.mov (Operand.tmp 1), g := none },
                      { dst := some 15, op := SOp.mov (Operand.tmp 2), g := none },
                      { dst := some 16, op := SOp.bin BinOp.eql (Operand.tmp 14) (Operand.tmp 15), g := none }]).seq
                (SC.cond (Operand.tmp 16)
                  ((SC.ops false
                        [{ dst := some 17, op := SOp.mov (Operand.tmp 0), g := none },
                          { dst := some 6, op := SOp.mov (Operand.tmp 17), g := none }]).seq
                    SC.ret)
                  SC.skip)).seq
            ((SC.ops false
                  [{ dst := some 18, op := SOp.mov (Operand.tmp 0), g := none },
                    { dst := some 19, op := SOp.len (Operand.tmp 18), g := none },
                    { dst := some 7, op := SOp.mov (Operand.tmp 19), g := none }]).seq
              ((SC.opsD 6
                    [{ dst := some 20, op := SOp.mov (Operand.tmp 0), g := none },
                      { dst := some 21, op := SOp.mov (Operand.tmp 1), g := none },
                      { dst := some 22, op := SOp.slice 6 (Operand.tmp 20) none (some (Operand.tmp 21)), g := none },
                      { dst := some 23, op := SOp.mov (Operand.tmp 0), g := none },
                      { dst := some 24, op := SOp.mov (Operand.tmp 2), g := none },
                      { dst := some 25, op := SOp.slice 6 (Operand.tmp 23) (some (Operand.tmp 24)) none, g := none },
                      { dst := some 26,
                        op :=
                          SOp.app 31 6 48
                            [Value.int IntKind.i64 (Int.ofNat 0), Value.int IntKind.i64 (Int.ofNat 0),
                              Value.int IntKind.i64 (Int.ofNat 0), Value.int IntKind.i64 (Int.ofNat 0),
                              Value.int IntKind.i64 (Int.ofNat 0), Value.int IntKind.i64 (Int.ofNat 0)]
                            (Operand.tmp 22) (Operand.tmp 25),
                        g := none },
                      { dst := some 0, op := SOp.mov (Operand.tmp 26), g := none }]).seq
                ((SC.ops false
                      [{ dst := some 27, op := SOp.mov (Operand.tmp 0), g := none },
                        { dst := some 28, op := SOp.mov (Operand.tmp 0), g := none },
                        { dst := some 29, op := SOp.len (Operand.tmp 28), g := none },
                        { dst := some 30, op := SOp.mov (Operand.tmp 7), g := none },
                        { dst := some 31,
                          op := SOp.slice 6 (Operand.tmp 27) (some (Operand.tmp 29)) (some (Operand.tmp 30)),
                          g := none },
                        { dst := none,
                          op :=
                            SOp.clear 31 6
                              [Value.int IntKind.i64 (Int.ofNat 0), Value.int IntKind.i64 (Int.ofNat 0),
                                Value.int IntKind.i64 (Int.ofNat 0), Value.int IntKind.i64 (Int.ofNat 0),
                                Value.int IntKind.i64 (Int.ofNat 0), Value.int IntKind.i64 (Int.ofNat 0)]
                              (Operand.tmp 31),
                          g := none }]).seq
                  ((SC.ops false
                        [{ dst := some 32, op := SOp.mov (Operand.tmp 0), g := none },
                          { dst := some 6, op := SOp.mov (Operand.tmp 32), g := none }]).seq
                    SC.ret)))))),
    res := [SR.tmp 6] }
theorem F43_ok : slimFn Try.prog hv Try.f43 = some F43 := by kernel_rfl
def F44 : Fn :=

  { N := 13,
    code :=
      (SC.ops false
            [{ dst := some 5, op := SOp.box 31 (Operand.tmp 0), g := none },
              { dst := some 6, op := SOp.mov (Operand.const (Value.bool false)), g := none }]).seq
        ((SC.ops false
              [{ dst := some 7, op := SOp.loadN 6 (Operand.tmp 5), g := none },
                { dst := some 8, op := SOp.load1 (Operand.tmp 1), g := none },
                { dst := some 9, op := SOp.load1 (Operand.tmp 2), g := none },
                { dst := some 10, op := SOp.load1 (Operand.tmp 3), g := none },
                { dst := some 11, op := SOp.load1 (Operand.tmp 4), g := none },
                { dst := some 12,
                  op := SOp.call 13 [Operand.tmp 7, Operand.tmp 8, Operand.tmp 9, Operand.tmp 10, Operand.tmp 11],
                  g := none },
                { dst := some 6, op := SOp.mov (Operand.tmp 12), g := none }]).seq
          SC.ret),
    res := [SR.tmp 6] }
theorem F44_ok : slimFn Try.prog hv Try.f44 = some F44 := by kernel_rfl
def F45 : Fn :=

  { N := 27,
    code :=
      (SC.ops false [{ dst := some 4, op := SOp.mov (Operand.const (Value.slice none 0 0)), g := none }]).seq
        (((SC.ops false
                  [{ dst := some 5, op := SOp.mov (Operand.tmp 1), g := none },
                    { dst := some 6,
                      op := SOp.bin BinOp.lss (Operand.tmp 5) (Operand.const (Value.int IntKind.i64 (Int.ofNat 0))),
                      g := none }]).seq
              (SC.cond (Operand.tmp 6)
                (SC.ops false
                  [{ dst := some 7, op := SOp.bad [], g := none },
                    { dst := none, op := SOp.bad [Operand.tmp 7], g := none }])
                SC.skip)).seq
          (((SC.ops false
                    [{ dst := some 8, op := SOp.mov (Operand.tmp 1), g := none },
                      { dst := some 9, op := SOp.mov (Operand.tmp 0), g := none },
                      { dst := some 10, op := SOp.cap (Operand.tmp 9), g := none },
                      { dst := some 11, op := SOp.mov (Operand.tmp 0), g := none },
                      { dst := some 12, op := SOp.len (Operand.tmp 11), g := none },
                      { dst := some 13, op := SOp.bin BinOp.sub (Operand.tmp 10) (Operand.tmp 12), g := none },
                      { dst := some 14, op := SOp.bin BinOp.sub (Operand.tmp 8) (Operand.tmp 13), g := none },
                      { dst := some 1, op := SOp.mov (Operand.tmp 14), g := none }]).seq
                ((SC.ops false
                      [{ dst := some 15, op := SOp.mov (Operand.tmp 1), g := none },
                        { dst := some 16,
                          op :=
                            SOp.bin BinOp.gtr (Operand.tmp 15) (Operand.const (Value.int IntKind.i64 (Int.ofNat 0))),
                          g := none }]).seq
                  (SC.cond (Operand.tmp 16)
                    (SC.ops false
                      [{ dst := some 17, op := SOp.mov (Operand.tmp 0), g := none },
                        { dst := some 18, op := SOp.mov (Operand.tmp 0), g := none },
                        { dst := some 19, op := SOp.cap (Operand.tmp 18), g := none },
                        { dst := some 20, op := SOp.slice 1 (Operand.tmp 17) none (some (Operand.tmp 19)), g := none },
                        { dst := some 21, op := SOp.mov (Operand.tmp 1), g := none },
                        { dst := some 22,
                          op := SOp.appZ 3 1 8 [Value.int IntKind.i64 (Int.ofNat 0)] (Operand.tmp 20) (Operand.tmp 21),
                          g := none },
                        { dst := some 23, op := SOp.mov (Operand.tmp 0), g := none },
                        { dst := some 24, op := SOp.len (Operand.tmp 23), g := none },
                        { dst := some 25, op := SOp.slice 1 (Operand.tmp 22) none (some (Operand.tmp 24)), g := none },
                        { dst := some 0, op := SOp.mov (Operand.tmp 25), g := none }])
                    SC.skip))).seq
            ((SC.ops false
                  [{ dst := some 26, op := SOp.mov (Operand.tmp 0), g := none },
                    { dst := some 4, op := SOp.mov (Operand.tmp 26), g := none }]).seq
              SC.ret))),
    res := [SR.tmp 4] }
theorem F45_ok : slimFn Try.prog hv Try.f45 = some F45 := by kernel_rfl
def F46 : Fn :=

  { N := 19,
    code :=
      (SC.ops false
            [{ dst := some 4, op := SOp.mov (Operand.const (Value.int IntKind.i64 (Int.ofNat 0))), g := none }]).seq
        (((SC.ops false
                  [{ dst := some 6, op := SOp.mov (Operand.tmp 0), g := none },
                    { dst := some 7, op := SOp.len (Operand.tmp 6), g := none },
                    { dst := some 8, op := SOp.mov (Operand.const (Value.int IntKind.i64 (Int.ofNat 0))),
                      g := none }]).seq
              (SC.block 0
                ((SC.ops false
                        [{ dst := some 9, op := SOp.bin BinOp.lss (Operand.tmp 8) (Operand.tmp 7), g := none }]).seq
                    ((SC.cond (Operand.tmp 9) SC.skip (SC.exit 0)).seq
                      ((SC.block 1
                            ((SC.ops false
                                  [{ dst := some 10, op := SOp.mov (Operand.tmp 8), g := none },
                                    { dst := some 5, op := SOp.mov (Operand.tmp 10), g := none }]).seq
                              ((SC.ops false
                                    [{ dst := some 11, op := SOp.mov (Operand.tmp 1), g := none },
                                      { dst := some 12, op := SOp.mov (Operand.tmp 0), g := none },
                                      { dst := some 13, op := SOp.mov (Operand.tmp 5), g := none },
                                      { dst := some 14, op := SOp.idx 1 (Operand.tmp 12) (Operand.tmp 13), g := none },
                                      { dst := some 15, op := SOp.load1 (Operand.tmp 14), g := none },
                                      { dst := some 16, op := SOp.bin BinOp.eql (Operand.tmp 11) (Operand.tmp 15),
                                        g := none }]).seq
                                (SC.cond (Operand.tmp 16)
                                  ((SC.ops false
                                        [{ dst := some 17, op := SOp.mov (Operand.tmp 5), g := none },
                                          { dst := some 4, op := SOp.mov (Operand.tmp 17), g := none }]).seq
                                    SC.ret)
                                  SC.skip)))).seq
                        (SC.ops false
                          [{ dst := some 18,
                              op :=
                                SOp.bin BinOp.add (Operand.tmp 8) (Operand.const (Value.int IntKind.i64 (Int.ofNat 1))),
                              g := none },
                            { dst := some 8, op := SOp.mov (Operand.tmp 18), g := none }])))).loop)).seq
          ((SC.ops false
                [{ dst := some 4, op := SOp.mov (Operand.const (Value.int IntKind.i64 (Int.negSucc 0))),
                    g := none }]).seq
            SC.ret)),
    res := [SR.tmp 4] }
theorem F46_ok : slimFn Try.prog hv Try.f46 = some F46 := by kernel_rfl
def F49 : Fn :=

  { N := 18,
    code :=
      (SC.ops false
            [{ dst := some 1, op := SOp.box 29 (Operand.tmp 0), g := none },
              { dst := some 2, op := SOp.mov (Operand.const (Value.bool false)), g := none }]).seq
        ((SC.ops false
              [{ dst := some 3, op := SOp.fld 0 (Operand.tmp 1), g := none },
                { dst := some 4, op := SOp.load1 (Operand.tmp 3), g := none },
                { dst := some 5,
                  op := SOp.bin BinOp.geq (Operand.tmp 4) (Operand.const (Value.int IntKind.i64 (Int.ofNat 0))),
                  g := none },
                { dst := some 6, op := SOp.mov (Operand.tmp 5), g := none },
                { dst := some 7, op := SOp.fld 0 (Operand.tmp 1), g := some (6, true) },
                { dst := some 8, op := SOp.load1 (Operand.tmp 7), g := some (6, true) },
                { dst := some 9, op := SOp.fld 1 (Operand.tmp 1), g := some (6, true) },
                { dst := some 10, op := SOp.load1 (Operand.tmp 9), g := some (6, true) },
                { dst := some 11, op := SOp.bin BinOp.lss (Operand.tmp 8) (Operand.tmp 10), g := some (6, true) },
                { dst := some 12, op := SOp.pick 6 (Operand.tmp 11) (Operand.const (Value.bool false)), g := none },
                { dst := some 13, op := SOp.mov (Operand.tmp 12), g := none },
                { dst := some 14, op := SOp.fld 1 (Operand.tmp 1), g := some (13, true) },
                { dst := some 15, op := SOp.load1 (Operand.tmp 14), g := some (13, true) },
                { dst := some 16,
                  op := SOp.bin BinOp.leq (Operand.tmp 15) (Operand.const (Value.int IntKind.i64 (Int.ofNat 1048576))),
                  g := some (13, true) },
                { dst := some 17, op := SOp.pick 13 (Operand.tmp 16) (Operand.const (Value.bool false)), g := none },
                { dst := some 2, op := SOp.mov (Operand.tmp 17), g := none }]).seq
          SC.ret),
    res := [SR.tmp 2] }
theorem F49_ok : slimFn Try.prog hv Try.f49 = some F49 := by kernel_rfl
def F50 : Fn :=

  { N := 9,
    code :=
      (SC.ops false [{ dst := some 2, op := SOp.mov (Operand.const (Value.bool false)), g := none }]).seq
        ((SC.ops false
              [{ dst := some 3, op := SOp.mov (Operand.tmp 0), g := none },
                { dst := some 4,
                  op := SOp.bin BinOp.geq (Operand.tmp 3) (Operand.const (Value.int IntKind.i64 (Int.ofNat 1))),
                  g := none },
                { dst := some 5, op := SOp.mov (Operand.tmp 4), g := none },
                { dst := some 6, op := SOp.mov (Operand.tmp 0), g := some (5, true) },
                { dst := some 7,
                  op :=
                    SOp.bin BinOp.leq (Operand.tmp 6) (Operand.const (Value.int IntKind.i64 (Int.ofNat 1073741824))),
                  g := some (5, true) },
                { dst := some 8, op := SOp.pick 5 (Operand.tmp 7) (Operand.const (Value.bool false)), g := none },
                { dst := some 2, op := SOp.mov (Operand.tmp 8), g := none }]).seq
          SC.ret),
    res := [SR.tmp 2] }
theorem F50_ok : slimFn Try.prog hv Try.f50 = some F50 := by kernel_rfl
theorem mixed : Try.prog.follows .mixedOrders = true := by kernel_rfl
end Go.Sx
