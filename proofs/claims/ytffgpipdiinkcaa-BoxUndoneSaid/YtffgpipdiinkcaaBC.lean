/- The code of the functions that the claim reaches, slimmed by a program of ours; each equation is checked by the kernel. -/
import Derived.Test.YtffgpipdiinkcaaSx3
import Derived.KernelRfl
import Derived.Test.YtffgpipdiinkcaaProg
set_option maxRecDepth 100000
namespace Go.Sx
open Go Go.Proofs
def hv : List Nat × List Nat := ([55, 56, 57], [55, 56, 57, 40, 54])
def F3 : Fn :=

  { N := 87,
    code :=
      (SC.ops false [{ dst := some 4, op := SOp.mov (Operand.const (Value.bool false)), g := none }]).seq
        (((SC.ops false
                  [{ dst := some 17, op := SOp.call 10 [], g := none },
                    { dst := some 18, op := SOp.un UnOp.not (Operand.tmp 17), g := none }]).seq
              (SC.cond (Operand.tmp 18)
                ((SC.ops false [{ dst := some 4, op := SOp.mov (Operand.const (Value.bool false)), g := none }]).seq
                  SC.ret)
                SC.skip)).seq
          (((SC.ops false
                    [{ dst := some 19, op := SOp.mov (Operand.tmp 0), g := none },
                      { dst := some 20, op := SOp.call 11 [Operand.tmp 19], g := none },
                      { dst := some 21, op := SOp.un UnOp.not (Operand.tmp 20), g := none }]).seq
                (SC.cond (Operand.tmp 21)
                  ((SC.ops false [{ dst := some 4, op := SOp.mov (Operand.const (Value.bool true)), g := none }]).seq
                    SC.ret)
                  SC.skip)).seq
            (((SC.ops false
                      [{ dst := some 22, op := SOp.mov (Operand.tmp 0), g := none },
                        { dst := some 23, op := SOp.len (Operand.tmp 22), g := none },
                        { dst := some 24, op := SOp.mov (Operand.const (Value.int IntKind.i64 (Int.ofNat 0))),
                          g := none }]).seq
                  (SC.block 0
                    ((SC.ops false
                            [{ dst := some 25, op := SOp.bin BinOp.lss (Operand.tmp 24) (Operand.tmp 23),
                                g := none }]).seq
                        ((SC.cond (Operand.tmp 25) SC.skip (SC.exit 0)).seq
                          ((SC.block 1
                                ((SC.ops false
                                      [{ dst := some 26, op := SOp.idx 5 (Operand.tmp 22) (Operand.tmp 24), g := none },
                                        { dst := some 27, op := SOp.loadN 5 (Operand.tmp 26), g := none },
                                        { dst := some 6,
                                          op :=
                                            SOp.alloc 27
                                              [Value.int IntKind.i64 (Int.ofNat 0), Value.int IntKind.i64 (Int.ofNat 0),
                                                Value.int IntKind.i64 (Int.ofNat 0),
                                                Value.int IntKind.i64 (Int.ofNat 0), Value.slice none 0 0],
                                          g := none },
                                        { dst := none, op := SOp.store 5 (Operand.tmp 6) (Operand.tmp 27),
                                          g := none }]).seq
                                  ((SC.ops false
                                        [{ dst := some 29, op := SOp.loadN 5 (Operand.tmp 6), g := none },
                                          { dst := some 30,
                                            op :=
                                              SOp.buildS 27 5 1
                                                [Value.int IntKind.i64 (Int.ofNat 0),
                                                  Value.int IntKind.i64 (Int.ofNat 0),
                                                  Value.int IntKind.i64 (Int.ofNat 0),
                                                  Value.int IntKind.i64 (Int.ofNat 0), Value.slice none 0 0]
                                                [(0, Operand.tmp 29)],
                                            g := none },
                                          { dst := some 31, op := SOp.call 13 [Operand.tmp 30], g := none },
                                          { dst := some 32,
                                            op :=
                                              SOp.idx 5 (Operand.tmp 31)
                                                (Operand.const (Value.int IntKind.i64 (Int.ofNat 0))),
                                            g := none },
                                          { dst := some 33, op := SOp.loadN 5 (Operand.tmp 32), g := none },
                                          { dst := some 34, op := SOp.call 12 [Operand.tmp 33], g := none },
                                          { dst := some 28, op := SOp.mov (Operand.tmp 34), g := none },
                                          { dst := some 35, op := SOp.ext (Operand.tmp 28) 0, g := none },
                                          { dst := some 36, op := SOp.ext (Operand.tmp 28) 1, g := none },
                                          { dst := some 7, op := SOp.mov (Operand.tmp 35), g := none },
                                          { dst := some 8, op := SOp.mov (Operand.tmp 36), g := none }]).seq
                                    ((SC.ops false
                                          [{ dst := some 38, op := SOp.loadN 5 (Operand.tmp 6), g := none },
                                            { dst := some 39, op := SOp.call 14 [Operand.tmp 38], g := none },
                                            { dst := some 37, op := SOp.mov (Operand.tmp 39), g := none },
                                            { dst := some 40, op := SOp.ext (Operand.tmp 37) 0, g := none },
                                            { dst := some 41, op := SOp.ext (Operand.tmp 37) 1, g := none },
                                            { dst := some 9, op := SOp.mov (Operand.tmp 40), g := none },
                                            { dst := some 10, op := SOp.mov (Operand.tmp 41), g := none }]).seq
                                      ((SC.ops false
                                            [{ dst := some 42, op := SOp.mov (Operand.tmp 7), g := none },
                                              { dst := some 43, op := SOp.mov (Operand.tmp 9), g := none },
                                              { dst := some 44,
                                                op := SOp.bin BinOp.neq (Operand.tmp 42) (Operand.tmp 43), g := none },
                                              { dst := some 45, op := SOp.mov (Operand.tmp 44), g := none },
                                              { dst := some 46, op := SOp.mov (Operand.tmp 8), g := some (45, false) },
                                              { dst := some 47, op := SOp.mov (Operand.tmp 10), g := some (45, false) },
                                              { dst := some 48,
                                                op := SOp.bin BinOp.neq (Operand.tmp 46) (Operand.tmp 47),
                                                g := some (45, false) },
                                              { dst := some 49,
                                                op := SOp.pick 45 (Operand.const (Value.bool true)) (Operand.tmp 48),
                                                g := none }]).seq
                                        (SC.cond (Operand.tmp 49)
                                          ((SC.ops false
                                                [{ dst := some 4, op := SOp.mov (Operand.const (Value.bool false)),
                                                    g := none }]).seq
                                            SC.ret)
                                          SC.skip)))))).seq
                            (SC.ops false
                              [{ dst := some 50,
                                  op :=
                                    SOp.bin BinOp.add (Operand.tmp 24)
                                      (Operand.const (Value.int IntKind.i64 (Int.ofNat 1))),
                                  g := none },
                                { dst := some 24, op := SOp.mov (Operand.tmp 50), g := none }])))).loop)).seq
              ((SC.ops false
                    [{ dst := some 52, op := SOp.mov (Operand.tmp 0), g := none },
                      { dst := some 53, op := SOp.call 13 [Operand.tmp 52], g := none },
                      { dst := some 54, op := SOp.mov (Operand.tmp 1), g := none },
                      { dst := some 55, op := SOp.call 15 [Operand.tmp 53, Operand.tmp 54], g := none },
                      { dst := some 51, op := SOp.mov (Operand.tmp 55), g := none },
                      { dst := some 56, op := SOp.ext (Operand.tmp 51) 0, g := none },
                      { dst := some 57, op := SOp.ext (Operand.tmp 51) 1, g := none },
                      { dst := some 58, op := SOp.ext (Operand.tmp 51) 2, g := none },
                      { dst := some 11, op := SOp.mov (Operand.tmp 56), g := none },
                      { dst := some 12, op := SOp.mov (Operand.tmp 57), g := none },
                      { dst := some 13, op := SOp.mov (Operand.tmp 58), g := none }]).seq
                ((SC.ops false
                      [{ dst := some 60, op := SOp.mov (Operand.tmp 0), g := none },
                        { dst := some 61, op := SOp.mov (Operand.tmp 1), g := none },
                        { dst := some 62, op := SOp.call 16 [Operand.tmp 60, Operand.tmp 61], g := none },
                        { dst := some 59, op := SOp.mov (Operand.tmp 62), g := none },
                        { dst := some 63, op := SOp.ext (Operand.tmp 59) 0, g := none },
                        { dst := some 64, op := SOp.ext (Operand.tmp 59) 1, g := none },
                        { dst := some 65, op := SOp.ext (Operand.tmp 59) 2, g := none },
                        { dst := some 14, op := SOp.mov (Operand.tmp 63), g := none },
                        { dst := some 15, op := SOp.mov (Operand.tmp 64), g := none },
                        { dst := some 16, op := SOp.mov (Operand.tmp 65), g := none }]).seq
                  ((SC.ops false
                        [{ dst := some 66, op := SOp.mov (Operand.tmp 0), g := none },
                          { dst := some 67, op := SOp.call 13 [Operand.tmp 66], g := none },
                          { dst := some 68, op := SOp.call 17 [Operand.tmp 67], g := none },
                          { dst := some 69, op := SOp.mov (Operand.tmp 0), g := none },
                          { dst := some 70, op := SOp.call 18 [Operand.tmp 69], g := none },
                          { dst := some 71, op := SOp.bin BinOp.eql (Operand.tmp 68) (Operand.tmp 70), g := none },
                          { dst := some 72, op := SOp.mov (Operand.tmp 71), g := none },
                          { dst := some 73, op := SOp.mov (Operand.tmp 11), g := some (72, true) },
                          { dst := some 74, op := SOp.mov (Operand.tmp 14), g := some (72, true) },
                          { dst := some 75, op := SOp.bin BinOp.eql (Operand.tmp 73) (Operand.tmp 74),
                            g := some (72, true) },
                          { dst := some 76, op := SOp.pick 72 (Operand.tmp 75) (Operand.const (Value.bool false)),
                            g := none },
                          { dst := some 77, op := SOp.mov (Operand.tmp 76), g := none },
                          { dst := some 78, op := SOp.mov (Operand.tmp 12), g := some (77, true) },
                          { dst := some 79, op := SOp.mov (Operand.tmp 15), g := some (77, true) },
                          { dst := some 80, op := SOp.bin BinOp.eql (Operand.tmp 78) (Operand.tmp 79),
                            g := some (77, true) },
                          { dst := some 81, op := SOp.pick 77 (Operand.tmp 80) (Operand.const (Value.bool false)),
                            g := none },
                          { dst := some 82, op := SOp.mov (Operand.tmp 81), g := none },
                          { dst := some 83, op := SOp.mov (Operand.tmp 13), g := some (82, true) },
                          { dst := some 84, op := SOp.mov (Operand.tmp 16), g := some (82, true) },
                          { dst := some 85, op := SOp.binB BinOp.eql (Operand.tmp 83) (Operand.tmp 84),
                            g := some (82, true) },
                          { dst := some 86, op := SOp.pick 82 (Operand.tmp 85) (Operand.const (Value.bool false)),
                            g := none },
                          { dst := some 4, op := SOp.mov (Operand.tmp 86), g := none }]).seq
                    SC.ret)))))),
    res := [SR.tmp 4] }
theorem F3_ok : slimFn Try.prog hv Try.f3 = some F3 := by kernel_rfl
def F5 : Fn :=

  { N := 83,
    code :=
      (SC.ops false
            [{ dst := some 4, op := SOp.box 39 (Operand.tmp 1), g := none },
              { dst := some 5, op := SOp.box 41 (Operand.tmp 2), g := none },
              { dst := some 6, op := SOp.mov (Operand.const (Value.bool false)), g := none }]).seq
        (((SC.ops false
                  [{ dst := some 17, op := SOp.call 10 [], g := none },
                    { dst := some 18, op := SOp.un UnOp.not (Operand.tmp 17), g := none }]).seq
              (SC.cond (Operand.tmp 18)
                ((SC.ops false [{ dst := some 6, op := SOp.mov (Operand.const (Value.bool false)), g := none }]).seq
                  SC.ret)
                SC.skip)).seq
          (((SC.ops false
                    [{ dst := some 19, op := SOp.mov (Operand.tmp 0), g := none },
                      { dst := some 20, op := SOp.call 11 [Operand.tmp 19], g := none },
                      { dst := some 21, op := SOp.un UnOp.not (Operand.tmp 20), g := none }]).seq
                (SC.cond (Operand.tmp 21)
                  ((SC.ops false [{ dst := some 6, op := SOp.mov (Operand.const (Value.bool true)), g := none }]).seq
                    SC.ret)
                  SC.skip)).seq
            ((SC.ops true
                  [{ dst := some 23, op := SOp.mov (Operand.tmp 0), g := none },
                    { dst := some 24, op := SOp.call 13 [Operand.tmp 23], g := none },
                    { dst := some 25,
                      op := SOp.idxA 3 1 (Operand.tmp 4) (Operand.const (Value.int IntKind.i64 (Int.ofNat 0))),
                      g := none },
                    { dst := some 26, op := SOp.load1 (Operand.tmp 25), g := none },
                    { dst := some 27,
                      op := SOp.idxA 3 1 (Operand.tmp 4) (Operand.const (Value.int IntKind.i64 (Int.ofNat 1))),
                      g := none },
                    { dst := some 28, op := SOp.load1 (Operand.tmp 27), g := none },
                    { dst := some 29, op := SOp.loadN 2 (Operand.tmp 5), g := none },
                    { dst := some 30,
                      op := SOp.call 21 [Operand.tmp 24, Operand.tmp 26, Operand.tmp 28, Operand.tmp 29], g := none },
                    { dst := some 22, op := SOp.mov (Operand.tmp 30), g := none },
                    { dst := some 31, op := SOp.ext (Operand.tmp 22) 0, g := none },
                    { dst := some 32, op := SOp.ext (Operand.tmp 22) 1, g := none },
                    { dst := some 7, op := SOp.mov (Operand.tmp 31), g := none },
                    { dst := some 8, op := SOp.mov (Operand.tmp 32), g := none }]).seq
              ((SC.ops false
                    [{ dst := some 34, op := SOp.mov (Operand.tmp 0), g := none },
                      { dst := some 35,
                        op := SOp.idxA 3 1 (Operand.tmp 4) (Operand.const (Value.int IntKind.i64 (Int.ofNat 0))),
                        g := none },
                      { dst := some 36, op := SOp.load1 (Operand.tmp 35), g := none },
                      { dst := some 37,
                        op := SOp.idxA 3 1 (Operand.tmp 4) (Operand.const (Value.int IntKind.i64 (Int.ofNat 1))),
                        g := none },
                      { dst := some 38, op := SOp.load1 (Operand.tmp 37), g := none },
                      { dst := some 39, op := SOp.loadN 2 (Operand.tmp 5), g := none },
                      { dst := some 40,
                        op := SOp.call 22 [Operand.tmp 34, Operand.tmp 36, Operand.tmp 38, Operand.tmp 39], g := none },
                      { dst := some 33, op := SOp.mov (Operand.tmp 40), g := none },
                      { dst := some 41, op := SOp.ext (Operand.tmp 33) 0, g := none },
                      { dst := some 42, op := SOp.ext (Operand.tmp 33) 1, g := none },
                      { dst := some 9, op := SOp.mov (Operand.tmp 41), g := none },
                      { dst := some 10, op := SOp.mov (Operand.tmp 42), g := none }]).seq
                ((SC.opsA [0]
                      [{ dst := some 44, op := SOp.mov (Operand.tmp 0), g := none },
                        { dst := some 45, op := SOp.call 13 [Operand.tmp 44], g := none },
                        { dst := some 46,
                          op := SOp.idxA 3 1 (Operand.tmp 4) (Operand.const (Value.int IntKind.i64 (Int.ofNat 2))),
                          g := none },
                        { dst := some 47, op := SOp.load1 (Operand.tmp 46), g := none },
                        { dst := some 48, op := SOp.call 23 [Operand.tmp 45, Operand.tmp 47], g := none },
                        { dst := some 43, op := SOp.mov (Operand.tmp 48), g := none },
                        { dst := some 49, op := SOp.ext (Operand.tmp 43) 0, g := none },
                        { dst := some 50, op := SOp.ext (Operand.tmp 43) 1, g := none },
                        { dst := some 51, op := SOp.ext (Operand.tmp 43) 2, g := none },
                        { dst := some 12,
                          op := SOp.alloc 41 [Value.int IntKind.i64 (Int.ofNat 0), Value.int IntKind.i64 (Int.ofNat 0)],
                          g := none },
                        { dst := some 11, op := SOp.mov (Operand.tmp 49), g := none },
                        { dst := none, op := SOp.store 2 (Operand.tmp 12) (Operand.tmp 50), g := none },
                        { dst := some 13, op := SOp.mov (Operand.tmp 51), g := none }]
                      [[], [0], [], [2], [1, 3, 1], [4], [5], [5], [5], [], [6, 4, 0, 1, 2, 3, 4, 5, 6, 9],
                        [9, 7, 10, 0, 1, 2, 3, 4, 5, 6, 7, 9, 10], [8, 11, 0, 1, 2, 3, 4, 5, 6, 7, 8, 9, 10, 11]]).seq
                  ((SC.ops false
                        [{ dst := some 53, op := SOp.mov (Operand.tmp 0), g := none },
                          { dst := some 54,
                            op := SOp.idxA 3 1 (Operand.tmp 4) (Operand.const (Value.int IntKind.i64 (Int.ofNat 2))),
                            g := none },
                          { dst := some 55, op := SOp.load1 (Operand.tmp 54), g := none },
                          { dst := some 56, op := SOp.call 24 [Operand.tmp 53, Operand.tmp 55], g := none },
                          { dst := some 52, op := SOp.mov (Operand.tmp 56), g := none },
                          { dst := some 57, op := SOp.ext (Operand.tmp 52) 0, g := none },
                          { dst := some 58, op := SOp.ext (Operand.tmp 52) 1, g := none },
                          { dst := some 59, op := SOp.ext (Operand.tmp 52) 2, g := none },
                          { dst := some 15,
                            op :=
                              SOp.alloc 41 [Value.int IntKind.i64 (Int.ofNat 0), Value.int IntKind.i64 (Int.ofNat 0)],
                            g := none },
                          { dst := some 14, op := SOp.mov (Operand.tmp 57), g := none },
                          { dst := none, op := SOp.store 2 (Operand.tmp 15) (Operand.tmp 58), g := none },
                          { dst := some 16, op := SOp.mov (Operand.tmp 59), g := none }]).seq
                    ((SC.ops false
                          [{ dst := some 60, op := SOp.mov (Operand.tmp 7), g := none },
                            { dst := some 61, op := SOp.mov (Operand.tmp 9), g := none },
                            { dst := some 62, op := SOp.call 25 [Operand.tmp 60, Operand.tmp 61], g := none },
                            { dst := some 63, op := SOp.mov (Operand.tmp 62), g := none },
                            { dst := some 64, op := SOp.mov (Operand.tmp 8), g := some (63, true) },
                            { dst := some 65, op := SOp.mov (Operand.tmp 10), g := some (63, true) },
                            { dst := some 66, op := SOp.bin BinOp.eql (Operand.tmp 64) (Operand.tmp 65),
                              g := some (63, true) },
                            { dst := some 67, op := SOp.pick 63 (Operand.tmp 66) (Operand.const (Value.bool false)),
                              g := none },
                            { dst := some 68, op := SOp.mov (Operand.tmp 67), g := none },
                            { dst := some 69, op := SOp.mov (Operand.tmp 11), g := some (68, true) },
                            { dst := some 70, op := SOp.mov (Operand.tmp 14), g := some (68, true) },
                            { dst := some 71, op := SOp.call 25 [Operand.tmp 69, Operand.tmp 70],
                              g := some (68, true) },
                            { dst := some 72, op := SOp.pick 68 (Operand.tmp 71) (Operand.const (Value.bool false)),
                              g := none },
                            { dst := some 73, op := SOp.mov (Operand.tmp 72), g := none },
                            { dst := some 74, op := SOp.loadN 2 (Operand.tmp 12), g := some (73, true) },
                            { dst := some 75, op := SOp.loadN 2 (Operand.tmp 15), g := some (73, true) },
                            { dst := some 76, op := SOp.binA false 41 (Operand.tmp 74) (Operand.tmp 75),
                              g := some (73, true) },
                            { dst := some 77, op := SOp.pick 73 (Operand.tmp 76) (Operand.const (Value.bool false)),
                              g := none },
                            { dst := some 78, op := SOp.mov (Operand.tmp 77), g := none },
                            { dst := some 79, op := SOp.mov (Operand.tmp 13), g := some (78, true) },
                            { dst := some 80, op := SOp.mov (Operand.tmp 16), g := some (78, true) },
                            { dst := some 81, op := SOp.bin BinOp.eql (Operand.tmp 79) (Operand.tmp 80),
                              g := some (78, true) },
                            { dst := some 82, op := SOp.pick 78 (Operand.tmp 81) (Operand.const (Value.bool false)),
                              g := none },
                            { dst := some 6, op := SOp.mov (Operand.tmp 82), g := none }]).seq
                      SC.ret))))))),
    res := [SR.tmp 6] }
theorem F5_ok : slimFn Try.prog hv Try.f5 = some F5 := by kernel_rfl
def F6 : Fn :=

  { N := 156,
    code :=
      (SC.ops false
            [{ dst := some 4, op := SOp.box 47 (Operand.tmp 1), g := none },
              { dst := some 5, op := SOp.box 41 (Operand.tmp 2), g := none },
              { dst := some 6, op := SOp.mov (Operand.const (Value.bool false)), g := none }]).seq
        (((SC.ops false
                  [{ dst := some 27, op := SOp.call 10 [], g := none },
                    { dst := some 28, op := SOp.un UnOp.not (Operand.tmp 27), g := none }]).seq
              (SC.cond (Operand.tmp 28)
                ((SC.ops false [{ dst := some 6, op := SOp.mov (Operand.const (Value.bool false)), g := none }]).seq
                  SC.ret)
                SC.skip)).seq
          (((SC.ops false
                    [{ dst := some 29, op := SOp.mov (Operand.tmp 0), g := none },
                      { dst := some 30, op := SOp.call 11 [Operand.tmp 29], g := none },
                      { dst := some 31, op := SOp.un UnOp.not (Operand.tmp 30), g := none }]).seq
                (SC.cond (Operand.tmp 31)
                  ((SC.ops false [{ dst := some 6, op := SOp.mov (Operand.const (Value.bool true)), g := none }]).seq
                    SC.ret)
                  SC.skip)).seq
            (((SC.ops true
                      [{ dst := some 33, op := SOp.mov (Operand.tmp 0), g := none },
                        { dst := some 34, op := SOp.call 13 [Operand.tmp 33], g := none },
                        { dst := some 35,
                          op := SOp.idxA 2 1 (Operand.tmp 4) (Operand.const (Value.int IntKind.i64 (Int.ofNat 0))),
                          g := none },
                        { dst := some 36, op := SOp.load1 (Operand.tmp 35), g := none },
                        { dst := some 37,
                          op := SOp.idxA 2 1 (Operand.tmp 4) (Operand.const (Value.int IntKind.i64 (Int.ofNat 1))),
                          g := none },
                        { dst := some 38, op := SOp.load1 (Operand.tmp 37), g := none },
                        { dst := some 39, op := SOp.loadN 2 (Operand.tmp 5), g := none },
                        { dst := some 40,
                          op := SOp.call 21 [Operand.tmp 34, Operand.tmp 36, Operand.tmp 38, Operand.tmp 39],
                          g := none },
                        { dst := some 32, op := SOp.mov (Operand.tmp 40), g := none },
                        { dst := some 41, op := SOp.ext (Operand.tmp 32) 0, g := none },
                        { dst := some 42, op := SOp.ext (Operand.tmp 32) 1, g := none },
                        { dst := some 7, op := SOp.mov (Operand.tmp 41), g := none },
                        { dst := some 8, op := SOp.mov (Operand.tmp 42), g := none }]).seq
                  ((SC.ops false
                        [{ dst := some 43, op := SOp.mov (Operand.tmp 8), g := none },
                          { dst := some 44,
                            op :=
                              SOp.bin BinOp.eql (Operand.tmp 43) (Operand.const (Value.int IntKind.i64 (Int.ofNat 0))),
                            g := none }]).seq
                    (SC.cond (Operand.tmp 44)
                      ((SC.ops true
                            [{ dst := some 46, op := SOp.mov (Operand.tmp 7), g := none },
                              { dst := some 47, op := SOp.call 13 [Operand.tmp 46], g := none },
                              { dst := some 48, op := SOp.fld 0 (Operand.tmp 5), g := none },
                              { dst := some 49, op := SOp.load1 (Operand.tmp 48), g := none },
                              { dst := some 50, op := SOp.call 15 [Operand.tmp 47, Operand.tmp 49], g := none },
                              { dst := some 45, op := SOp.mov (Operand.tmp 50), g := none },
                              { dst := some 51, op := SOp.ext (Operand.tmp 45) 0, g := none },
                              { dst := some 52, op := SOp.ext (Operand.tmp 45) 1, g := none },
                              { dst := some 53, op := SOp.ext (Operand.tmp 45) 2, g := none },
                              { dst := some 9, op := SOp.mov (Operand.tmp 51), g := none },
                              { dst := some 10, op := SOp.mov (Operand.tmp 52), g := none },
                              { dst := some 11, op := SOp.mov (Operand.tmp 53), g := none }]).seq
                        ((SC.opsA [0]
                              [{ dst := some 55, op := SOp.mov (Operand.tmp 7), g := none },
                                { dst := some 56, op := SOp.call 13 [Operand.tmp 55], g := none },
                                { dst := some 57, op := SOp.fld 0 (Operand.tmp 5), g := none },
                                { dst := some 58, op := SOp.load1 (Operand.tmp 57), g := none },
                                { dst := some 59, op := SOp.call 23 [Operand.tmp 56, Operand.tmp 58], g := none },
                                { dst := some 54, op := SOp.mov (Operand.tmp 59), g := none },
                                { dst := some 60, op := SOp.ext (Operand.tmp 54) 0, g := none },
                                { dst := some 61, op := SOp.ext (Operand.tmp 54) 1, g := none },
                                { dst := some 62, op := SOp.ext (Operand.tmp 54) 2, g := none },
                                { dst := some 13,
                                  op :=
                                    SOp.alloc 41
                                      [Value.int IntKind.i64 (Int.ofNat 0), Value.int IntKind.i64 (Int.ofNat 0)],
                                  g := none },
                                { dst := some 12, op := SOp.mov (Operand.tmp 60), g := none },
                                { dst := none, op := SOp.store 2 (Operand.tmp 13) (Operand.tmp 61), g := none },
                                { dst := some 14, op := SOp.mov (Operand.tmp 62), g := none }]
                              [[], [0], [], [2], [1, 3, 1], [4], [5], [5], [5], [], [6, 4, 0, 1, 2, 3, 4, 5, 6, 9],
                                [9, 7, 10, 0, 1, 2, 3, 4, 5, 6, 7, 9, 10],
                                [8, 11, 0, 1, 2, 3, 4, 5, 6, 7, 8, 9, 10, 11]]).seq
                          ((SC.ops false
                                [{ dst := some 63, op := SOp.mov (Operand.tmp 11), g := none },
                                  { dst := some 64, op := SOp.un UnOp.not (Operand.tmp 63), g := none },
                                  { dst := some 65, op := SOp.mov (Operand.tmp 64), g := none },
                                  { dst := some 66, op := SOp.mov (Operand.tmp 9), g := some (65, false) },
                                  { dst := some 67,
                                    op :=
                                      SOp.idxA 2 1 (Operand.tmp 4)
                                        (Operand.const (Value.int IntKind.i64 (Int.ofNat 0))),
                                    g := some (65, false) },
                                  { dst := some 68, op := SOp.load1 (Operand.tmp 67), g := some (65, false) },
                                  { dst := some 69, op := SOp.bin BinOp.neq (Operand.tmp 66) (Operand.tmp 68),
                                    g := some (65, false) },
                                  { dst := some 70,
                                    op := SOp.pick 65 (Operand.const (Value.bool true)) (Operand.tmp 69), g := none },
                                  { dst := some 71, op := SOp.mov (Operand.tmp 70), g := none },
                                  { dst := some 72, op := SOp.mov (Operand.tmp 10), g := some (71, false) },
                                  { dst := some 73,
                                    op :=
                                      SOp.idxA 2 1 (Operand.tmp 4)
                                        (Operand.const (Value.int IntKind.i64 (Int.ofNat 1))),
                                    g := some (71, false) },
                                  { dst := some 74, op := SOp.load1 (Operand.tmp 73), g := some (71, false) },
                                  { dst := some 75, op := SOp.bin BinOp.neq (Operand.tmp 72) (Operand.tmp 74),
                                    g := some (71, false) },
                                  { dst := some 76,
                                    op := SOp.pick 71 (Operand.const (Value.bool true)) (Operand.tmp 75), g := none },
                                  { dst := some 77, op := SOp.mov (Operand.tmp 76), g := none },
                                  { dst := some 78, op := SOp.mov (Operand.tmp 14), g := some (77, false) },
                                  { dst := some 79,
                                    op :=
                                      SOp.bin BinOp.neq (Operand.tmp 78)
                                        (Operand.const (Value.int IntKind.i64 (Int.ofNat 0))),
                                    g := some (77, false) },
                                  { dst := some 80,
                                    op := SOp.pick 77 (Operand.const (Value.bool true)) (Operand.tmp 79), g := none },
                                  { dst := some 81, op := SOp.mov (Operand.tmp 80), g := none },
                                  { dst := some 82, op := SOp.loadN 2 (Operand.tmp 13), g := some (81, false) },
                                  { dst := some 83, op := SOp.loadN 2 (Operand.tmp 5), g := some (81, false) },
                                  { dst := some 84, op := SOp.binA true 41 (Operand.tmp 82) (Operand.tmp 83),
                                    g := some (81, false) },
                                  { dst := some 85,
                                    op := SOp.pick 81 (Operand.const (Value.bool true)) (Operand.tmp 84), g := none },
                                  { dst := some 86, op := SOp.mov (Operand.tmp 85), g := none },
                                  { dst := some 87, op := SOp.mov (Operand.tmp 12), g := some (86, false) },
                                  { dst := some 88, op := SOp.mov (Operand.tmp 0), g := some (86, false) },
                                  { dst := some 89, op := SOp.call 25 [Operand.tmp 87, Operand.tmp 88],
                                    g := some (86, false) },
                                  { dst := some 90, op := SOp.un UnOp.not (Operand.tmp 89), g := some (86, false) },
                                  { dst := some 91,
                                    op := SOp.pick 86 (Operand.const (Value.bool true)) (Operand.tmp 90), g := none },
                                  { dst := some 92, op := SOp.mov (Operand.tmp 91), g := none },
                                  { dst := some 93, op := SOp.mov (Operand.tmp 7), g := some (92, false) },
                                  { dst := some 94, op := SOp.call 13 [Operand.tmp 93], g := some (92, false) },
                                  { dst := some 95, op := SOp.call 17 [Operand.tmp 94], g := some (92, false) },
                                  { dst := some 96,
                                    op :=
                                      SOp.bin BinOp.neq (Operand.tmp 95)
                                        (Operand.const (Value.int IntKind.i64 (Int.ofNat 0))),
                                    g := some (92, false) },
                                  { dst := some 97,
                                    op := SOp.pick 92 (Operand.const (Value.bool true)) (Operand.tmp 96),
                                    g := none }]).seq
                            (SC.cond (Operand.tmp 97)
                              ((SC.ops false
                                    [{ dst := some 6, op := SOp.mov (Operand.const (Value.bool false)),
                                        g := none }]).seq
                                SC.ret)
                              SC.skip))))
                      SC.skip))).seq
              (((SC.ops false
                        [{ dst := some 98, op := SOp.mov (Operand.tmp 0), g := none },
                          { dst := some 99, op := SOp.len (Operand.tmp 98), g := none },
                          { dst := some 100, op := SOp.mov (Operand.const (Value.int IntKind.i64 (Int.ofNat 0))),
                            g := none }]).seq
                    (SC.block 0
                      ((SC.ops false
                              [{ dst := some 101, op := SOp.bin BinOp.lss (Operand.tmp 100) (Operand.tmp 99),
                                  g := none }]).seq
                          ((SC.cond (Operand.tmp 101) SC.skip (SC.exit 0)).seq
                            ((SC.block 1
                                  ((SC.ops false
                                        [{ dst := some 102, op := SOp.idx 5 (Operand.tmp 98) (Operand.tmp 100),
                                            g := none },
                                          { dst := some 103, op := SOp.loadN 5 (Operand.tmp 102), g := none },
                                          { dst := some 16,
                                            op :=
                                              SOp.alloc 27
                                                [Value.int IntKind.i64 (Int.ofNat 0),
                                                  Value.int IntKind.i64 (Int.ofNat 0),
                                                  Value.int IntKind.i64 (Int.ofNat 0),
                                                  Value.int IntKind.i64 (Int.ofNat 0), Value.slice none 0 0],
                                            g := none },
                                          { dst := none, op := SOp.store 5 (Operand.tmp 16) (Operand.tmp 103),
                                            g := none }]).seq
                                    ((SC.ops false
                                          [{ dst := some 104, op := SOp.fld 4 (Operand.tmp 16), g := none },
                                            { dst := some 105, op := SOp.load1 (Operand.tmp 104), g := none },
                                            { dst := some 106, op := SOp.len (Operand.tmp 105), g := none },
                                            { dst := some 107,
                                              op := SOp.mov (Operand.const (Value.int IntKind.i64 (Int.ofNat 0))),
                                              g := none }]).seq
                                      (SC.block 2
                                        ((SC.ops false
                                                [{ dst := some 108,
                                                    op := SOp.bin BinOp.lss (Operand.tmp 107) (Operand.tmp 106),
                                                    g := none }]).seq
                                            ((SC.cond (Operand.tmp 108) SC.skip (SC.exit 2)).seq
                                              ((SC.block 3
                                                    ((SC.ops false
                                                          [{ dst := some 109,
                                                              op := SOp.idx 2 (Operand.tmp 105) (Operand.tmp 107),
                                                              g := none },
                                                            { dst := some 110, op := SOp.loadN 2 (Operand.tmp 109),
                                                              g := none },
                                                            { dst := some 18,
                                                              op :=
                                                                SOp.alloc 41
                                                                  [Value.int IntKind.i64 (Int.ofNat 0),
                                                                    Value.int IntKind.i64 (Int.ofNat 0)],
                                                              g := none },
                                                            { dst := none,
                                                              op := SOp.store 2 (Operand.tmp 18) (Operand.tmp 110),
                                                              g := none }]).seq
                                                      ((SC.ops true
                                                            [{ dst := some 112, op := SOp.mov (Operand.tmp 0),
                                                                g := none },
                                                              { dst := some 113, op := SOp.call 13 [Operand.tmp 112],
                                                                g := none },
                                                              { dst := some 114, op := SOp.fld 0 (Operand.tmp 18),
                                                                g := none },
                                                              { dst := some 115, op := SOp.load1 (Operand.tmp 114),
                                                                g := none },
                                                              { dst := some 116,
                                                                op := SOp.call 15 [Operand.tmp 113, Operand.tmp 115],
                                                                g := none },
                                                              { dst := some 111, op := SOp.mov (Operand.tmp 116),
                                                                g := none },
                                                              { dst := some 117, op := SOp.ext (Operand.tmp 111) 0,
                                                                g := none },
                                                              { dst := some 118, op := SOp.ext (Operand.tmp 111) 1,
                                                                g := none },
                                                              { dst := some 119, op := SOp.ext (Operand.tmp 111) 2,
                                                                g := none },
                                                              { dst := some 19, op := SOp.mov (Operand.tmp 117),
                                                                g := none },
                                                              { dst := some 20, op := SOp.mov (Operand.tmp 118),
                                                                g := none },
                                                              { dst := some 21, op := SOp.mov (Operand.tmp 119),
                                                                g := none }]).seq
                                                        ((SC.opsA [0]
                                                              [{ dst := some 121, op := SOp.mov (Operand.tmp 0),
                                                                  g := none },
                                                                { dst := some 122, op := SOp.call 13 [Operand.tmp 121],
                                                                  g := none },
                                                                { dst := some 123, op := SOp.fld 0 (Operand.tmp 18),
                                                                  g := none },
                                                                { dst := some 124, op := SOp.load1 (Operand.tmp 123),
                                                                  g := none },
                                                                { dst := some 125,
                                                                  op := SOp.call 23 [Operand.tmp 122, Operand.tmp 124],
                                                                  g := none },
                                                                { dst := some 120, op := SOp.mov (Operand.tmp 125),
                                                                  g := none },
                                                                { dst := some 126, op := SOp.ext (Operand.tmp 120) 0,
                                                                  g := none },
                                                                { dst := some 127, op := SOp.ext (Operand.tmp 120) 1,
                                                                  g := none },
                                                                { dst := some 128, op := SOp.ext (Operand.tmp 120) 2,
                                                                  g := none },
                                                                { dst := some 23,
                                                                  op :=
                                                                    SOp.alloc 41
                                                                      [Value.int IntKind.i64 (Int.ofNat 0),
                                                                        Value.int IntKind.i64 (Int.ofNat 0)],
                                                                  g := none },
                                                                { dst := some 22, op := SOp.mov (Operand.tmp 126),
                                                                  g := none },
                                                                { dst := none,
                                                                  op := SOp.store 2 (Operand.tmp 23) (Operand.tmp 127),
                                                                  g := none },
                                                                { dst := some 24, op := SOp.mov (Operand.tmp 128),
                                                                  g := none }]
                                                              [[], [0], [], [2], [1, 3, 1], [4], [5], [5], [5], [],
                                                                [6, 4, 0, 1, 2, 3, 4, 5, 6, 9],
                                                                [9, 7, 10, 0, 1, 2, 3, 4, 5, 6, 7, 9, 10],
                                                                [8, 11, 0, 1, 2, 3, 4, 5, 6, 7, 8, 9, 10, 11]]).seq
                                                          (((SC.ops false
                                                                    [{ dst := some 129, op := SOp.mov (Operand.tmp 24),
                                                                        g := none },
                                                                      { dst := some 130,
                                                                        op :=
                                                                          SOp.bin BinOp.neq (Operand.tmp 129)
                                                                            (Operand.const
                                                                              (Value.int IntKind.i64 (Int.ofNat 0))),
                                                                        g := none }]).seq
                                                                (SC.cond (Operand.tmp 130)
                                                                  ((SC.ops false
                                                                        [{ dst := some 131,
                                                                            op := SOp.mov (Operand.tmp 21), g := none },
                                                                          { dst := some 132,
                                                                            op := SOp.un UnOp.not (Operand.tmp 131),
                                                                            g := none },
                                                                          { dst := some 6,
                                                                            op := SOp.mov (Operand.tmp 132),
                                                                            g := none }]).seq
                                                                    SC.ret)
                                                                  SC.skip)).seq
                                                            ((SC.ops true
                                                                  [{ dst := some 134, op := SOp.mov (Operand.tmp 22),
                                                                      g := none },
                                                                    { dst := some 135,
                                                                      op := SOp.call 13 [Operand.tmp 134], g := none },
                                                                    { dst := some 136, op := SOp.mov (Operand.tmp 19),
                                                                      g := none },
                                                                    { dst := some 137, op := SOp.mov (Operand.tmp 20),
                                                                      g := none },
                                                                    { dst := some 138,
                                                                      op := SOp.loadN 2 (Operand.tmp 23), g := none },
                                                                    { dst := some 139,
                                                                      op :=
                                                                        SOp.call 21
                                                                          [Operand.tmp 135, Operand.tmp 136,
                                                                            Operand.tmp 137, Operand.tmp 138],
                                                                      g := none },
                                                                    { dst := some 133, op := SOp.mov (Operand.tmp 139),
                                                                      g := none },
                                                                    { dst := some 140,
                                                                      op := SOp.ext (Operand.tmp 133) 0, g := none },
                                                                    { dst := some 141,
                                                                      op := SOp.ext (Operand.tmp 133) 1, g := none },
                                                                    { dst := some 25, op := SOp.mov (Operand.tmp 140),
                                                                      g := none },
                                                                    { dst := some 26, op := SOp.mov (Operand.tmp 141),
                                                                      g := none }]).seq
                                                              ((SC.ops false
                                                                    [{ dst := some 142, op := SOp.mov (Operand.tmp 21),
                                                                        g := none },
                                                                      { dst := some 143,
                                                                        op := SOp.un UnOp.not (Operand.tmp 142),
                                                                        g := none },
                                                                      { dst := some 144,
                                                                        op := SOp.mov (Operand.tmp 143), g := none },
                                                                      { dst := some 145, op := SOp.mov (Operand.tmp 26),
                                                                        g := some (144, false) },
                                                                      { dst := some 146,
                                                                        op :=
                                                                          SOp.bin BinOp.neq (Operand.tmp 145)
                                                                            (Operand.const
                                                                              (Value.int IntKind.i64 (Int.ofNat 0))),
                                                                        g := some (144, false) },
                                                                      { dst := some 147,
                                                                        op :=
                                                                          SOp.pick 144 (Operand.const (Value.bool true))
                                                                            (Operand.tmp 146),
                                                                        g := none },
                                                                      { dst := some 148,
                                                                        op := SOp.mov (Operand.tmp 147), g := none },
                                                                      { dst := some 149, op := SOp.mov (Operand.tmp 25),
                                                                        g := some (148, false) },
                                                                      { dst := some 150, op := SOp.mov (Operand.tmp 0),
                                                                        g := some (148, false) },
                                                                      { dst := some 151,
                                                                        op :=
                                                                          SOp.call 25
                                                                            [Operand.tmp 149, Operand.tmp 150],
                                                                        g := some (148, false) },
                                                                      { dst := some 152,
                                                                        op := SOp.un UnOp.not (Operand.tmp 151),
                                                                        g := some (148, false) },
                                                                      { dst := some 153,
                                                                        op :=
                                                                          SOp.pick 148 (Operand.const (Value.bool true))
                                                                            (Operand.tmp 152),
                                                                        g := none }]).seq
                                                                (SC.cond (Operand.tmp 153)
                                                                  ((SC.ops false
                                                                        [{ dst := some 6,
                                                                            op :=
                                                                              SOp.mov
                                                                                (Operand.const (Value.bool false)),
                                                                            g := none }]).seq
                                                                    SC.ret)
                                                                  SC.skip)))))))).seq
                                                (SC.ops false
                                                  [{ dst := some 154,
                                                      op :=
                                                        SOp.bin BinOp.add (Operand.tmp 107)
                                                          (Operand.const (Value.int IntKind.i64 (Int.ofNat 1))),
                                                      g := none },
                                                    { dst := some 107, op := SOp.mov (Operand.tmp 154),
                                                      g := none }])))).loop)))).seq
                              (SC.ops false
                                [{ dst := some 155,
                                    op :=
                                      SOp.bin BinOp.add (Operand.tmp 100)
                                        (Operand.const (Value.int IntKind.i64 (Int.ofNat 1))),
                                    g := none },
                                  { dst := some 100, op := SOp.mov (Operand.tmp 155), g := none }])))).loop)).seq
                ((SC.ops false [{ dst := some 6, op := SOp.mov (Operand.const (Value.bool true)), g := none }]).seq
                  SC.ret))))),
    res := [SR.tmp 6] }
theorem F6_ok : slimFn Try.prog hv Try.f6 = some F6 := by kernel_rfl
def F10 : Fn :=

  { N := 58,
    code :=
      (SC.ops false [{ dst := some 0, op := SOp.mov (Operand.const (Value.bool false)), g := none }]).seq
        ((SC.ops false
              [{ dst := some 11, op := SOp.call 30 [], g := none },
                { dst := some 12,
                  op := SOp.idx 5 (Operand.tmp 11) (Operand.const (Value.int IntKind.i64 (Int.ofNat 0))), g := none },
                { dst := some 13, op := SOp.loadN 5 (Operand.tmp 12), g := none },
                { dst := some 14, op := SOp.call 12 [Operand.tmp 13], g := none },
                { dst := some 10, op := SOp.mov (Operand.tmp 14), g := none },
                { dst := some 15, op := SOp.ext (Operand.tmp 10) 0, g := none },
                { dst := some 16, op := SOp.ext (Operand.tmp 10) 1, g := none },
                { dst := some 1, op := SOp.mov (Operand.tmp 15), g := none },
                { dst := some 2, op := SOp.mov (Operand.tmp 16), g := none }]).seq
          ((SC.ops false
                [{ dst := some 18, op := SOp.call 30 [], g := none },
                  { dst := some 19,
                    op :=
                      SOp.build [Value.int IntKind.i64 (Int.ofNat 0), Value.int IntKind.i64 (Int.ofNat 0)]
                        [(0, 1, Operand.const (Value.int IntKind.i64 (Int.ofNat 9))),
                          (1, 1, Operand.const (Value.int IntKind.i64 (Int.ofNat 31)))],
                    g := none },
                  { dst := some 20,
                    op :=
                      SOp.call 21
                        [Operand.tmp 18, Operand.const (Value.int IntKind.i64 (Int.ofNat 3)),
                          Operand.const (Value.int IntKind.i64 (Int.ofNat 1)), Operand.tmp 19],
                    g := none },
                  { dst := some 17, op := SOp.mov (Operand.tmp 20), g := none },
                  { dst := some 21, op := SOp.ext (Operand.tmp 17) 0, g := none },
                  { dst := some 22, op := SOp.ext (Operand.tmp 17) 1, g := none },
                  { dst := some 3, op := SOp.mov (Operand.tmp 21), g := none },
                  { dst := some 4, op := SOp.mov (Operand.tmp 22), g := none }]).seq
            ((SC.ops false
                  [{ dst := some 24, op := SOp.call 30 [], g := none },
                    { dst := some 25,
                      op :=
                        SOp.build [Value.int IntKind.i64 (Int.ofNat 0), Value.int IntKind.i64 (Int.ofNat 0)]
                          [(0, 1, Operand.const (Value.int IntKind.i64 (Int.ofNat 9))),
                            (1, 1, Operand.const (Value.int IntKind.i64 (Int.ofNat 30)))],
                      g := none },
                    { dst := some 26,
                      op :=
                        SOp.call 21
                          [Operand.tmp 24, Operand.const (Value.int IntKind.i64 (Int.ofNat 3)),
                            Operand.const (Value.int IntKind.i64 (Int.ofNat 1)), Operand.tmp 25],
                      g := none },
                    { dst := some 23, op := SOp.mov (Operand.tmp 26), g := none },
                    { dst := some 27, op := SOp.ext (Operand.tmp 23) 0, g := none },
                    { dst := some 28, op := SOp.ext (Operand.tmp 23) 1, g := none },
                    { dst := some 5, op := SOp.mov (Operand.tmp 27), g := none },
                    { dst := some 6, op := SOp.mov (Operand.tmp 28), g := none }]).seq
              ((SC.ops false
                    [{ dst := some 30, op := SOp.mov (Operand.tmp 5), g := none },
                      { dst := some 31,
                        op := SOp.call 15 [Operand.tmp 30, Operand.const (Value.int IntKind.i64 (Int.ofNat 9))],
                        g := none },
                      { dst := some 29, op := SOp.mov (Operand.tmp 31), g := none },
                      { dst := some 32, op := SOp.ext (Operand.tmp 29) 0, g := none },
                      { dst := some 33, op := SOp.ext (Operand.tmp 29) 1, g := none },
                      { dst := some 34, op := SOp.ext (Operand.tmp 29) 2, g := none },
                      { dst := some 7, op := SOp.mov (Operand.tmp 32), g := none },
                      { dst := some 8, op := SOp.mov (Operand.tmp 33), g := none },
                      { dst := some 9, op := SOp.mov (Operand.tmp 34), g := none }]).seq
                ((SC.ops false
                      [{ dst := some 35, op := SOp.mov (Operand.tmp 1), g := none },
                        { dst := some 36,
                          op :=
                            SOp.bin BinOp.eql (Operand.tmp 35) (Operand.const (Value.int IntKind.i64 (Int.ofNat 30))),
                          g := none },
                        { dst := some 37, op := SOp.mov (Operand.tmp 36), g := none },
                        { dst := some 38, op := SOp.mov (Operand.tmp 4), g := some (37, true) },
                        { dst := some 39,
                          op :=
                            SOp.bin BinOp.eql (Operand.tmp 38) (Operand.const (Value.int IntKind.i64 (Int.ofNat 12))),
                          g := some (37, true) },
                        { dst := some 40, op := SOp.pick 37 (Operand.tmp 39) (Operand.const (Value.bool false)),
                          g := none },
                        { dst := some 41, op := SOp.mov (Operand.tmp 40), g := none },
                        { dst := some 42, op := SOp.mov (Operand.tmp 7), g := some (41, true) },
                        { dst := some 43,
                          op :=
                            SOp.bin BinOp.eql (Operand.tmp 42) (Operand.const (Value.int IntKind.i64 (Int.ofNat 3))),
                          g := some (41, true) },
                        { dst := some 44, op := SOp.pick 41 (Operand.tmp 43) (Operand.const (Value.bool false)),
                          g := none },
                        { dst := some 45, op := SOp.mov (Operand.tmp 44), g := none },
                        { dst := some 46, op := SOp.mov (Operand.tmp 8), g := some (45, true) },
                        { dst := some 47,
                          op :=
                            SOp.bin BinOp.eql (Operand.tmp 46) (Operand.const (Value.int IntKind.i64 (Int.ofNat 1))),
                          g := some (45, true) },
                        { dst := some 48, op := SOp.pick 45 (Operand.tmp 47) (Operand.const (Value.bool false)),
                          g := none },
                        { dst := some 49, op := SOp.mov (Operand.tmp 48), g := none },
                        { dst := some 50, op := SOp.mov (Operand.tmp 9), g := some (49, true) },
                        { dst := some 51, op := SOp.pick 49 (Operand.tmp 50) (Operand.const (Value.bool false)),
                          g := none },
                        { dst := some 52, op := SOp.mov (Operand.tmp 51), g := none },
                        { dst := some 53, op := SOp.mov (Operand.tmp 2), g := some (52, true) },
                        { dst := some 54, op := SOp.mov (Operand.tmp 6), g := some (52, true) },
                        { dst := some 55, op := SOp.bin BinOp.add (Operand.tmp 53) (Operand.tmp 54),
                          g := some (52, true) },
                        { dst := some 56,
                          op :=
                            SOp.bin BinOp.eql (Operand.tmp 55) (Operand.const (Value.int IntKind.i64 (Int.ofNat 0))),
                          g := some (52, true) },
                        { dst := some 57, op := SOp.pick 52 (Operand.tmp 56) (Operand.const (Value.bool false)),
                          g := none },
                        { dst := some 0, op := SOp.mov (Operand.tmp 57), g := none }]).seq
                  SC.ret))))),
    res := [SR.tmp 0] }
theorem F10_ok : slimFn Try.prog hv Try.f10 = some F10 := by kernel_rfl
def F11 : Fn :=

  { N := 19,
    code :=
      (SC.ops false [{ dst := some 2, op := SOp.mov (Operand.const (Value.bool false)), g := none }]).seq
        (((SC.ops false
                  [{ dst := some 5, op := SOp.mov (Operand.tmp 0), g := none },
                    { dst := some 6, op := SOp.len (Operand.tmp 5), g := none },
                    { dst := some 7, op := SOp.mov (Operand.const (Value.int IntKind.i64 (Int.ofNat 0))),
                      g := none }]).seq
              (SC.block 0
                ((SC.ops false
                        [{ dst := some 8, op := SOp.bin BinOp.lss (Operand.tmp 7) (Operand.tmp 6), g := none }]).seq
                    ((SC.cond (Operand.tmp 8) SC.skip (SC.exit 0)).seq
                      ((SC.block 1
                            ((SC.ops false
                                  [{ dst := some 9, op := SOp.idx 5 (Operand.tmp 5) (Operand.tmp 7), g := none },
                                    { dst := some 10, op := SOp.loadN 5 (Operand.tmp 9), g := none },
                                    { dst := some 4,
                                      op :=
                                        SOp.alloc 27
                                          [Value.int IntKind.i64 (Int.ofNat 0), Value.int IntKind.i64 (Int.ofNat 0),
                                            Value.int IntKind.i64 (Int.ofNat 0), Value.int IntKind.i64 (Int.ofNat 0),
                                            Value.slice none 0 0],
                                      g := none },
                                    { dst := none, op := SOp.store 5 (Operand.tmp 4) (Operand.tmp 10), g := none }]).seq
                              ((SC.ops false
                                    [{ dst := some 11, op := SOp.fld 4 (Operand.tmp 4), g := none },
                                      { dst := some 12, op := SOp.load1 (Operand.tmp 11), g := none },
                                      { dst := some 13, op := SOp.len (Operand.tmp 12), g := none },
                                      { dst := some 14,
                                        op :=
                                          SOp.bin BinOp.gtr (Operand.tmp 13)
                                            (Operand.const (Value.int IntKind.i64 (Int.ofNat 40))),
                                        g := none }]).seq
                                (SC.cond (Operand.tmp 14)
                                  ((SC.ops false
                                        [{ dst := some 2, op := SOp.mov (Operand.const (Value.bool false)),
                                            g := none }]).seq
                                    SC.ret)
                                  SC.skip)))).seq
                        (SC.ops false
                          [{ dst := some 15,
                              op :=
                                SOp.bin BinOp.add (Operand.tmp 7) (Operand.const (Value.int IntKind.i64 (Int.ofNat 1))),
                              g := none },
                            { dst := some 7, op := SOp.mov (Operand.tmp 15), g := none }])))).loop)).seq
          ((SC.ops false
                [{ dst := some 16, op := SOp.mov (Operand.tmp 0), g := none },
                  { dst := some 17, op := SOp.len (Operand.tmp 16), g := none },
                  { dst := some 18,
                    op := SOp.bin BinOp.leq (Operand.tmp 17) (Operand.const (Value.int IntKind.i64 (Int.ofNat 20))),
                    g := none },
                  { dst := some 2, op := SOp.mov (Operand.tmp 18), g := none }]).seq
            SC.ret)),
    res := [SR.tmp 2] }
theorem F11_ok : slimFn Try.prog hv Try.f11 = some F11 := by kernel_rfl
def F12 : Fn :=

  { N := 14,
    code :=
      (SC.ops false
            [{ dst := some 1, op := SOp.box 27 (Operand.tmp 0), g := none },
              { dst := some 2, op := SOp.mov (Operand.const (Value.int IntKind.i64 (Int.ofNat 0))), g := none },
              { dst := some 3, op := SOp.mov (Operand.const (Value.int IntKind.i64 (Int.ofNat 0))), g := none }]).seq
        (((SC.ops false
                  [{ dst := some 4, op := SOp.loadN 5 (Operand.tmp 1), g := none },
                    { dst := some 5,
                      op :=
                        SOp.buildS 27 5 1
                          [Value.int IntKind.i64 (Int.ofNat 0), Value.int IntKind.i64 (Int.ofNat 0),
                            Value.int IntKind.i64 (Int.ofNat 0), Value.int IntKind.i64 (Int.ofNat 0),
                            Value.slice none 0 0]
                          [(0, Operand.tmp 4)],
                      g := none },
                    { dst := some 6, op := SOp.call 17 [Operand.tmp 5], g := none },
                    { dst := some 7,
                      op := SOp.bin BinOp.neq (Operand.tmp 6) (Operand.const (Value.int IntKind.i64 (Int.ofNat 0))),
                      g := none }]).seq
              (SC.cond (Operand.tmp 7)
                ((SC.ops false
                      [{ dst := some 2, op := SOp.mov (Operand.const (Value.int IntKind.i64 (Int.ofNat 0))),
                          g := none },
                        { dst := some 3, op := SOp.mov (Operand.const (Value.int IntKind.i64 (Int.ofNat 1))),
                          g := none }]).seq
                  SC.ret)
                SC.skip)).seq
          ((SC.ops true
                [{ dst := some 8, op := SOp.fld 2 (Operand.tmp 1), g := none },
                  { dst := some 9, op := SOp.load1 (Operand.tmp 8), g := none },
                  { dst := some 10, op := SOp.fld 4 (Operand.tmp 1), g := none },
                  { dst := some 11, op := SOp.load1 (Operand.tmp 10), g := none },
                  { dst := some 12, op := SOp.call 31 [Operand.tmp 11], g := none },
                  { dst := some 13, op := SOp.bin BinOp.sub (Operand.tmp 9) (Operand.tmp 12), g := none },
                  { dst := some 2, op := SOp.mov (Operand.tmp 13), g := none },
                  { dst := some 3, op := SOp.mov (Operand.const (Value.int IntKind.i64 (Int.ofNat 0))),
                    g := none }]).seq
            SC.ret)),
    res := [SR.tmp 2, SR.tmp 3] }
theorem F12_ok : slimFn Try.prog hv Try.f12 = some F12 := by kernel_rfl
def F13 : Fn :=

  { N := 26,
    code :=
      (SC.ops false [{ dst := some 2, op := SOp.mov (Operand.const (Value.slice none 0 0)), g := none }]).seq
        ((SC.ops false
              [{ dst := some 5,
                  op :=
                    SOp.buildS 27 5 0
                      [Value.int IntKind.i64 (Int.ofNat 0), Value.int IntKind.i64 (Int.ofNat 0),
                        Value.int IntKind.i64 (Int.ofNat 0), Value.int IntKind.i64 (Int.ofNat 0), Value.slice none 0 0]
                      [],
                  g := none },
                { dst := some 6, op := SOp.mov (Operand.tmp 0), g := none },
                { dst := some 7,
                  op :=
                    SOp.app 27 5 56
                      [Value.int IntKind.i64 (Int.ofNat 0), Value.int IntKind.i64 (Int.ofNat 0),
                        Value.int IntKind.i64 (Int.ofNat 0), Value.int IntKind.i64 (Int.ofNat 0), Value.slice none 0 0]
                      (Operand.tmp 5) (Operand.tmp 6),
                  g := none },
                { dst := some 3, op := SOp.mov (Operand.tmp 7), g := none }]).seq
          (((SC.ops false
                    [{ dst := some 8, op := SOp.mov (Operand.tmp 3), g := none },
                      { dst := some 9, op := SOp.len (Operand.tmp 8), g := none },
                      { dst := some 10, op := SOp.mov (Operand.const (Value.int IntKind.i64 (Int.ofNat 0))),
                        g := none }]).seq
                (SC.block 0
                  ((SC.ops false
                          [{ dst := some 11, op := SOp.bin BinOp.lss (Operand.tmp 10) (Operand.tmp 9), g := none }]).seq
                      ((SC.cond (Operand.tmp 11) SC.skip (SC.exit 0)).seq
                        ((SC.block 1
                              ((SC.ops false
                                    [{ dst := some 12, op := SOp.mov (Operand.tmp 10), g := none },
                                      { dst := some 4, op := SOp.mov (Operand.tmp 12), g := none }]).seq
                                (SC.ops false
                                  [{ dst := some 13, op := SOp.mov (Operand.tmp 3), g := none },
                                    { dst := some 14, op := SOp.mov (Operand.tmp 4), g := none },
                                    { dst := some 15,
                                      op :=
                                        SOp.buildS 41 2 0
                                          [Value.int IntKind.i64 (Int.ofNat 0), Value.int IntKind.i64 (Int.ofNat 0)] [],
                                      g := none },
                                    { dst := some 16, op := SOp.mov (Operand.tmp 3), g := none },
                                    { dst := some 17, op := SOp.mov (Operand.tmp 4), g := none },
                                    { dst := some 18, op := SOp.idx 5 (Operand.tmp 16) (Operand.tmp 17), g := none },
                                    { dst := some 19, op := SOp.fld 4 (Operand.tmp 18), g := none },
                                    { dst := some 20, op := SOp.load1 (Operand.tmp 19), g := none },
                                    { dst := some 21,
                                      op :=
                                        SOp.app 41 2 16
                                          [Value.int IntKind.i64 (Int.ofNat 0), Value.int IntKind.i64 (Int.ofNat 0)]
                                          (Operand.tmp 15) (Operand.tmp 20),
                                      g := none },
                                    { dst := some 22, op := SOp.idx 5 (Operand.tmp 13) (Operand.tmp 14), g := none },
                                    { dst := some 23, op := SOp.fld 4 (Operand.tmp 22), g := none },
                                    { dst := none, op := SOp.store 1 (Operand.tmp 23) (Operand.tmp 21),
                                      g := none }]))).seq
                          (SC.ops false
                            [{ dst := some 24,
                                op :=
                                  SOp.bin BinOp.add (Operand.tmp 10)
                                    (Operand.const (Value.int IntKind.i64 (Int.ofNat 1))),
                                g := none },
                              { dst := some 10, op := SOp.mov (Operand.tmp 24), g := none }])))).loop)).seq
            ((SC.ops false
                  [{ dst := some 25, op := SOp.mov (Operand.tmp 3), g := none },
                    { dst := some 2, op := SOp.mov (Operand.tmp 25), g := none }]).seq
              SC.ret))),
    res := [SR.tmp 2] }
theorem F13_ok : slimFn Try.prog hv Try.f13 = some F13 := by kernel_rfl
def F14 : Fn :=

  { N := 13,
    code :=
      (SC.ops false
            [{ dst := some 1, op := SOp.box 27 (Operand.tmp 0), g := none },
              { dst := some 2, op := SOp.mov (Operand.const (Value.int IntKind.i64 (Int.ofNat 0))), g := none },
              { dst := some 3, op := SOp.mov (Operand.const (Value.int IntKind.i64 (Int.ofNat 0))), g := none }]).seq
        (((SC.ops false
                  [{ dst := some 4, op := SOp.loadN 5 (Operand.tmp 1), g := none },
                    { dst := some 5,
                      op :=
                        SOp.buildS 27 5 1
                          [Value.int IntKind.i64 (Int.ofNat 0), Value.int IntKind.i64 (Int.ofNat 0),
                            Value.int IntKind.i64 (Int.ofNat 0), Value.int IntKind.i64 (Int.ofNat 0),
                            Value.slice none 0 0]
                          [(0, Operand.tmp 4)],
                      g := none },
                    { dst := some 6, op := SOp.call 18 [Operand.tmp 5], g := none },
                    { dst := some 7,
                      op := SOp.bin BinOp.neq (Operand.tmp 6) (Operand.const (Value.int IntKind.i64 (Int.ofNat 0))),
                      g := none }]).seq
              (SC.cond (Operand.tmp 7)
                ((SC.ops false
                      [{ dst := some 2, op := SOp.mov (Operand.const (Value.int IntKind.i64 (Int.ofNat 0))),
                          g := none },
                        { dst := some 3, op := SOp.mov (Operand.const (Value.int IntKind.i64 (Int.ofNat 1))),
                          g := none }]).seq
                  SC.ret)
                SC.skip)).seq
          ((SC.ops true
                [{ dst := some 8, op := SOp.fld 2 (Operand.tmp 1), g := none },
                  { dst := some 9, op := SOp.load1 (Operand.tmp 8), g := none },
                  { dst := some 10, op := SOp.loadN 5 (Operand.tmp 1), g := none },
                  { dst := some 11, op := SOp.call 32 [Operand.tmp 10], g := none },
                  { dst := some 12, op := SOp.bin BinOp.sub (Operand.tmp 9) (Operand.tmp 11), g := none },
                  { dst := some 2, op := SOp.mov (Operand.tmp 12), g := none },
                  { dst := some 3, op := SOp.mov (Operand.const (Value.int IntKind.i64 (Int.ofNat 0))),
                    g := none }]).seq
            SC.ret)),
    res := [SR.tmp 2, SR.tmp 3] }
theorem F14_ok : slimFn Try.prog hv Try.f14 = some F14 := by kernel_rfl
def F15 : Fn :=

  { N := 28,
    code :=
      (SC.ops false
            [{ dst := some 4, op := SOp.mov (Operand.const (Value.int IntKind.i64 (Int.ofNat 0))), g := none },
              { dst := some 5, op := SOp.mov (Operand.const (Value.int IntKind.i64 (Int.ofNat 0))), g := none },
              { dst := some 6, op := SOp.mov (Operand.const (Value.bool false)), g := none }]).seq
        ((SC.ops false
              [{ dst := some 10, op := SOp.mov (Operand.tmp 0), g := none },
                { dst := some 11, op := SOp.mov (Operand.tmp 1), g := none },
                { dst := some 12, op := SOp.call 33 [Operand.tmp 10, Operand.tmp 11], g := none },
                { dst := some 9, op := SOp.mov (Operand.tmp 12), g := none },
                { dst := some 13, op := SOp.ext (Operand.tmp 9) 0, g := none },
                { dst := some 14, op := SOp.ext (Operand.tmp 9) 1, g := none },
                { dst := some 7, op := SOp.mov (Operand.tmp 13), g := none },
                { dst := some 8, op := SOp.mov (Operand.tmp 14), g := none }]).seq
          (((SC.ops false
                    [{ dst := some 15, op := SOp.mov (Operand.tmp 7), g := none },
                      { dst := some 16,
                        op := SOp.bin BinOp.lss (Operand.tmp 15) (Operand.const (Value.int IntKind.i64 (Int.ofNat 0))),
                        g := none },
                      { dst := some 17, op := SOp.mov (Operand.tmp 16), g := none },
                      { dst := some 18, op := SOp.mov (Operand.tmp 0), g := some (17, false) },
                      { dst := some 19, op := SOp.call 17 [Operand.tmp 18], g := some (17, false) },
                      { dst := some 20,
                        op := SOp.bin BinOp.neq (Operand.tmp 19) (Operand.const (Value.int IntKind.i64 (Int.ofNat 0))),
                        g := some (17, false) },
                      { dst := some 21, op := SOp.pick 17 (Operand.const (Value.bool true)) (Operand.tmp 20),
                        g := none }]).seq
                (SC.cond (Operand.tmp 21)
                  ((SC.ops false
                        [{ dst := some 4, op := SOp.mov (Operand.const (Value.int IntKind.i64 (Int.ofNat 0))),
                            g := none },
                          { dst := some 5, op := SOp.mov (Operand.const (Value.int IntKind.i64 (Int.ofNat 0))),
                            g := none },
                          { dst := some 6, op := SOp.mov (Operand.const (Value.bool false)), g := none }]).seq
                    SC.ret)
                  SC.skip)).seq
            ((SC.ops false
                  [{ dst := some 22, op := SOp.mov (Operand.tmp 0), g := none },
                    { dst := some 23, op := SOp.mov (Operand.tmp 7), g := none },
                    { dst := some 24, op := SOp.idx 5 (Operand.tmp 22) (Operand.tmp 23), g := none },
                    { dst := some 25, op := SOp.fld 0 (Operand.tmp 24), g := none },
                    { dst := some 26, op := SOp.load1 (Operand.tmp 25), g := none },
                    { dst := some 27, op := SOp.mov (Operand.tmp 8), g := none },
                    { dst := some 4, op := SOp.mov (Operand.tmp 26), g := none },
                    { dst := some 5, op := SOp.mov (Operand.tmp 27), g := none },
                    { dst := some 6, op := SOp.mov (Operand.const (Value.bool true)), g := none }]).seq
              SC.ret))),
    res := [SR.tmp 4, SR.tmp 5, SR.tmp 6] }
theorem F15_ok : slimFn Try.prog hv Try.f15 = some F15 := by kernel_rfl
def F16 : Fn :=

  { N := 37,
    code :=
      (SC.ops false
            [{ dst := some 4, op := SOp.mov (Operand.const (Value.int IntKind.i64 (Int.ofNat 0))), g := none },
              { dst := some 5, op := SOp.mov (Operand.const (Value.int IntKind.i64 (Int.ofNat 0))), g := none },
              { dst := some 6, op := SOp.mov (Operand.const (Value.bool false)), g := none }]).seq
        (((SC.ops false
                  [{ dst := some 11, op := SOp.mov (Operand.tmp 0), g := none },
                    { dst := some 12, op := SOp.call 18 [Operand.tmp 11], g := none },
                    { dst := some 13,
                      op := SOp.bin BinOp.neq (Operand.tmp 12) (Operand.const (Value.int IntKind.i64 (Int.ofNat 0))),
                      g := none }]).seq
              (SC.cond (Operand.tmp 13)
                ((SC.ops false
                      [{ dst := some 4, op := SOp.mov (Operand.const (Value.int IntKind.i64 (Int.ofNat 0))),
                          g := none },
                        { dst := some 5, op := SOp.mov (Operand.const (Value.int IntKind.i64 (Int.ofNat 0))),
                          g := none },
                        { dst := some 6, op := SOp.mov (Operand.const (Value.bool false)), g := none }]).seq
                  SC.ret)
                SC.skip)).seq
          (((SC.ops false
                    [{ dst := some 14, op := SOp.mov (Operand.tmp 0), g := none },
                      { dst := some 15, op := SOp.len (Operand.tmp 14), g := none },
                      { dst := some 16, op := SOp.mov (Operand.const (Value.int IntKind.i64 (Int.ofNat 0))),
                        g := none }]).seq
                (SC.block 0
                  ((SC.ops false
                          [{ dst := some 17, op := SOp.bin BinOp.lss (Operand.tmp 16) (Operand.tmp 15),
                              g := none }]).seq
                      ((SC.cond (Operand.tmp 17) SC.skip (SC.exit 0)).seq
                        ((SC.block 1
                              ((SC.ops false
                                    [{ dst := some 18, op := SOp.idx 5 (Operand.tmp 14) (Operand.tmp 16), g := none },
                                      { dst := some 19, op := SOp.loadN 5 (Operand.tmp 18), g := none },
                                      { dst := some 8,
                                        op :=
                                          SOp.alloc 27
                                            [Value.int IntKind.i64 (Int.ofNat 0), Value.int IntKind.i64 (Int.ofNat 0),
                                              Value.int IntKind.i64 (Int.ofNat 0), Value.int IntKind.i64 (Int.ofNat 0),
                                              Value.slice none 0 0],
                                        g := none },
                                      { dst := none, op := SOp.store 5 (Operand.tmp 8) (Operand.tmp 19),
                                        g := none }]).seq
                                ((SC.ops false
                                      [{ dst := some 20, op := SOp.fld 4 (Operand.tmp 8), g := none },
                                        { dst := some 21, op := SOp.load1 (Operand.tmp 20), g := none },
                                        { dst := some 22, op := SOp.len (Operand.tmp 21), g := none },
                                        { dst := some 23,
                                          op := SOp.mov (Operand.const (Value.int IntKind.i64 (Int.ofNat 0))),
                                          g := none }]).seq
                                  (SC.block 2
                                    ((SC.ops false
                                            [{ dst := some 24,
                                                op := SOp.bin BinOp.lss (Operand.tmp 23) (Operand.tmp 22),
                                                g := none }]).seq
                                        ((SC.cond (Operand.tmp 24) SC.skip (SC.exit 2)).seq
                                          ((SC.block 3
                                                ((SC.ops false
                                                      [{ dst := some 25, op := SOp.mov (Operand.tmp 23), g := none },
                                                        { dst := some 26,
                                                          op := SOp.idx 2 (Operand.tmp 21) (Operand.tmp 23),
                                                          g := none },
                                                        { dst := some 27, op := SOp.loadN 2 (Operand.tmp 26),
                                                          g := none },
                                                        { dst := some 10,
                                                          op :=
                                                            SOp.alloc 41
                                                              [Value.int IntKind.i64 (Int.ofNat 0),
                                                                Value.int IntKind.i64 (Int.ofNat 0)],
                                                          g := none },
                                                        { dst := some 9, op := SOp.mov (Operand.tmp 25), g := none },
                                                        { dst := none,
                                                          op := SOp.store 2 (Operand.tmp 10) (Operand.tmp 27),
                                                          g := none }]).seq
                                                  ((SC.ops false
                                                        [{ dst := some 28, op := SOp.fld 0 (Operand.tmp 10),
                                                            g := none },
                                                          { dst := some 29, op := SOp.load1 (Operand.tmp 28),
                                                            g := none },
                                                          { dst := some 30, op := SOp.mov (Operand.tmp 1), g := none },
                                                          { dst := some 31,
                                                            op := SOp.bin BinOp.eql (Operand.tmp 29) (Operand.tmp 30),
                                                            g := none }]).seq
                                                    (SC.cond (Operand.tmp 31)
                                                      ((SC.ops false
                                                            [{ dst := some 32, op := SOp.fld 0 (Operand.tmp 8),
                                                                g := none },
                                                              { dst := some 33, op := SOp.load1 (Operand.tmp 32),
                                                                g := none },
                                                              { dst := some 34, op := SOp.mov (Operand.tmp 9),
                                                                g := none },
                                                              { dst := some 4, op := SOp.mov (Operand.tmp 33),
                                                                g := none },
                                                              { dst := some 5, op := SOp.mov (Operand.tmp 34),
                                                                g := none },
                                                              { dst := some 6,
                                                                op := SOp.mov (Operand.const (Value.bool true)),
                                                                g := none }]).seq
                                                        SC.ret)
                                                      SC.skip)))).seq
                                            (SC.ops false
                                              [{ dst := some 35,
                                                  op :=
                                                    SOp.bin BinOp.add (Operand.tmp 23)
                                                      (Operand.const (Value.int IntKind.i64 (Int.ofNat 1))),
                                                  g := none },
                                                { dst := some 23, op := SOp.mov (Operand.tmp 35),
                                                  g := none }])))).loop)))).seq
                          (SC.ops false
                            [{ dst := some 36,
                                op :=
                                  SOp.bin BinOp.add (Operand.tmp 16)
                                    (Operand.const (Value.int IntKind.i64 (Int.ofNat 1))),
                                g := none },
                              { dst := some 16, op := SOp.mov (Operand.tmp 36), g := none }])))).loop)).seq
            ((SC.ops false
                  [{ dst := some 4, op := SOp.mov (Operand.const (Value.int IntKind.i64 (Int.ofNat 0))), g := none },
                    { dst := some 5, op := SOp.mov (Operand.const (Value.int IntKind.i64 (Int.ofNat 0))), g := none },
                    { dst := some 6, op := SOp.mov (Operand.const (Value.bool false)), g := none }]).seq
              SC.ret))),
    res := [SR.tmp 4, SR.tmp 5, SR.tmp 6] }
theorem F16_ok : slimFn Try.prog hv Try.f16 = some F16 := by kernel_rfl
def F17 : Fn :=

  { N := 54,
    code :=
      (SC.ops false
            [{ dst := some 2, op := SOp.mov (Operand.const (Value.int IntKind.i64 (Int.ofNat 0))), g := none }]).seq
        (((SC.ops false
                  [{ dst := some 9, op := SOp.mov (Operand.tmp 0), g := none },
                    { dst := some 10, op := SOp.len (Operand.tmp 9), g := none },
                    { dst := some 11,
                      op := SOp.bin BinOp.gtr (Operand.tmp 10) (Operand.const (Value.int IntKind.i64 (Int.ofNat 128))),
                      g := none }]).seq
              (SC.cond (Operand.tmp 11)
                ((SC.ops false
                      [{ dst := some 2, op := SOp.mov (Operand.const (Value.int IntKind.i64 (Int.ofNat 8))),
                          g := none }]).seq
                  SC.ret)
                SC.skip)).seq
          ((SC.ops false
                [{ dst := some 12, op := SOp.makeM (Value.bool false), g := none },
                  { dst := some 3, op := SOp.mov (Operand.tmp 12), g := none }]).seq
            (((SC.ops false
                      [{ dst := some 13, op := SOp.mov (Operand.tmp 0), g := none },
                        { dst := some 14, op := SOp.len (Operand.tmp 13), g := none },
                        { dst := some 15, op := SOp.mov (Operand.const (Value.int IntKind.i64 (Int.ofNat 0))),
                          g := none }]).seq
                  (SC.block 0
                    ((SC.ops false
                            [{ dst := some 16, op := SOp.bin BinOp.lss (Operand.tmp 15) (Operand.tmp 14),
                                g := none }]).seq
                        ((SC.cond (Operand.tmp 16) SC.skip (SC.exit 0)).seq
                          ((SC.block 1
                                ((SC.ops false
                                      [{ dst := some 17, op := SOp.mov (Operand.tmp 15), g := none },
                                        { dst := some 18, op := SOp.idx 5 (Operand.tmp 13) (Operand.tmp 15),
                                          g := none },
                                        { dst := some 19, op := SOp.loadN 5 (Operand.tmp 18), g := none },
                                        { dst := some 5,
                                          op :=
                                            SOp.alloc 27
                                              [Value.int IntKind.i64 (Int.ofNat 0), Value.int IntKind.i64 (Int.ofNat 0),
                                                Value.int IntKind.i64 (Int.ofNat 0),
                                                Value.int IntKind.i64 (Int.ofNat 0), Value.slice none 0 0],
                                          g := none },
                                        { dst := some 4, op := SOp.mov (Operand.tmp 17), g := none },
                                        { dst := none, op := SOp.store 5 (Operand.tmp 5) (Operand.tmp 19),
                                          g := none }]).seq
                                  (((SC.ops false
                                            [{ dst := some 20, op := SOp.loadN 5 (Operand.tmp 5), g := none },
                                              { dst := some 21, op := SOp.call 34 [Operand.tmp 20], g := none },
                                              { dst := some 6, op := SOp.mov (Operand.tmp 21), g := none }]).seq
                                        ((SC.ops false
                                              [{ dst := some 22, op := SOp.mov (Operand.tmp 6), g := none },
                                                { dst := some 23,
                                                  op :=
                                                    SOp.bin BinOp.neq (Operand.tmp 22)
                                                      (Operand.const (Value.int IntKind.i64 (Int.ofNat 0))),
                                                  g := none }]).seq
                                          (SC.cond (Operand.tmp 23)
                                            ((SC.ops false
                                                  [{ dst := some 24, op := SOp.mov (Operand.tmp 6), g := none },
                                                    { dst := some 2, op := SOp.mov (Operand.tmp 24), g := none }]).seq
                                              SC.ret)
                                            SC.skip))).seq
                                    (((SC.ops true
                                              [{ dst := some 25, op := SOp.mov (Operand.tmp 4), g := none },
                                                { dst := some 26,
                                                  op :=
                                                    SOp.bin BinOp.gtr (Operand.tmp 25)
                                                      (Operand.const (Value.int IntKind.i64 (Int.ofNat 0))),
                                                  g := none },
                                                { dst := some 27, op := SOp.mov (Operand.tmp 26), g := none },
                                                { dst := some 28, op := SOp.fld 0 (Operand.tmp 5),
                                                  g := some (27, true) },
                                                { dst := some 29, op := SOp.load1 (Operand.tmp 28),
                                                  g := some (27, true) },
                                                { dst := some 30, op := SOp.mov (Operand.tmp 0), g := some (27, true) },
                                                { dst := some 31, op := SOp.mov (Operand.tmp 4), g := some (27, true) },
                                                { dst := some 32,
                                                  op :=
                                                    SOp.bin BinOp.sub (Operand.tmp 31)
                                                      (Operand.const (Value.int IntKind.i64 (Int.ofNat 1))),
                                                  g := some (27, true) },
                                                { dst := some 33, op := SOp.idx 5 (Operand.tmp 30) (Operand.tmp 32),
                                                  g := some (27, true) },
                                                { dst := some 34, op := SOp.fld 0 (Operand.tmp 33),
                                                  g := some (27, true) },
                                                { dst := some 35, op := SOp.load1 (Operand.tmp 34),
                                                  g := some (27, true) },
                                                { dst := some 36,
                                                  op := SOp.bin BinOp.leq (Operand.tmp 29) (Operand.tmp 35),
                                                  g := some (27, true) },
                                                { dst := some 37,
                                                  op := SOp.pick 27 (Operand.tmp 36) (Operand.const (Value.bool false)),
                                                  g := none }]).seq
                                          (SC.cond (Operand.tmp 37)
                                            ((SC.ops false
                                                  [{ dst := some 2,
                                                      op :=
                                                        SOp.mov (Operand.const (Value.int IntKind.i64 (Int.ofNat 5))),
                                                      g := none }]).seq
                                              SC.ret)
                                            SC.skip)).seq
                                      ((SC.ops false
                                            [{ dst := some 38, op := SOp.fld 4 (Operand.tmp 5), g := none },
                                              { dst := some 39, op := SOp.load1 (Operand.tmp 38), g := none },
                                              { dst := some 40, op := SOp.len (Operand.tmp 39), g := none },
                                              { dst := some 41,
                                                op := SOp.mov (Operand.const (Value.int IntKind.i64 (Int.ofNat 0))),
                                                g := none }]).seq
                                        (SC.block 2
                                          ((SC.ops false
                                                  [{ dst := some 42,
                                                      op := SOp.bin BinOp.lss (Operand.tmp 41) (Operand.tmp 40),
                                                      g := none }]).seq
                                              ((SC.cond (Operand.tmp 42) SC.skip (SC.exit 2)).seq
                                                ((SC.block 3
                                                      ((SC.ops false
                                                            [{ dst := some 43,
                                                                op := SOp.idx 2 (Operand.tmp 39) (Operand.tmp 41),
                                                                g := none },
                                                              { dst := some 44, op := SOp.loadN 2 (Operand.tmp 43),
                                                                g := none },
                                                              { dst := some 8,
                                                                op :=
                                                                  SOp.alloc 41
                                                                    [Value.int IntKind.i64 (Int.ofNat 0),
                                                                      Value.int IntKind.i64 (Int.ofNat 0)],
                                                                g := none },
                                                              { dst := none,
                                                                op := SOp.store 2 (Operand.tmp 8) (Operand.tmp 44),
                                                                g := none }]).seq
                                                        (((SC.ops false
                                                                  [{ dst := some 45, op := SOp.mov (Operand.tmp 3),
                                                                      g := none },
                                                                    { dst := some 46, op := SOp.fld 0 (Operand.tmp 8),
                                                                      g := none },
                                                                    { dst := some 47, op := SOp.load1 (Operand.tmp 46),
                                                                      g := none },
                                                                    { dst := some 48,
                                                                      op :=
                                                                        SOp.lookup (Value.bool false) false
                                                                          (Operand.tmp 45) (Operand.tmp 47),
                                                                      g := none }]).seq
                                                              (SC.cond (Operand.tmp 48)
                                                                ((SC.ops false
                                                                      [{ dst := some 2,
                                                                          op :=
                                                                            SOp.mov
                                                                              (Operand.const
                                                                                (Value.int IntKind.i64 (Int.ofNat 6))),
                                                                          g := none }]).seq
                                                                  SC.ret)
                                                                SC.skip)).seq
                                                          (SC.ops false
                                                            [{ dst := some 49, op := SOp.mov (Operand.tmp 3),
                                                                g := none },
                                                              { dst := some 50, op := SOp.fld 0 (Operand.tmp 8),
                                                                g := none },
                                                              { dst := some 51, op := SOp.load1 (Operand.tmp 50),
                                                                g := none },
                                                              { dst := none,
                                                                op :=
                                                                  SOp.mapUp (Operand.tmp 49) (Operand.tmp 51)
                                                                    (Operand.const (Value.bool true)),
                                                                g := none }])))).seq
                                                  (SC.ops false
                                                    [{ dst := some 52,
                                                        op :=
                                                          SOp.bin BinOp.add (Operand.tmp 41)
                                                            (Operand.const (Value.int IntKind.i64 (Int.ofNat 1))),
                                                        g := none },
                                                      { dst := some 41, op := SOp.mov (Operand.tmp 52),
                                                        g := none }])))).loop)))))).seq
                            (SC.ops false
                              [{ dst := some 53,
                                  op :=
                                    SOp.bin BinOp.add (Operand.tmp 15)
                                      (Operand.const (Value.int IntKind.i64 (Int.ofNat 1))),
                                  g := none },
                                { dst := some 15, op := SOp.mov (Operand.tmp 53), g := none }])))).loop)).seq
              ((SC.ops false
                    [{ dst := some 2, op := SOp.mov (Operand.const (Value.int IntKind.i64 (Int.ofNat 0))),
                        g := none }]).seq
                SC.ret)))),
    res := [SR.tmp 2] }
theorem F17_ok : slimFn Try.prog hv Try.f17 = some F17 := by kernel_rfl
def F18 : Fn :=

  { N := 66,
    code :=
      (SC.ops false
            [{ dst := some 2, op := SOp.mov (Operand.const (Value.int IntKind.i64 (Int.ofNat 0))), g := none }]).seq
        (((SC.ops false
                  [{ dst := some 10, op := SOp.mov (Operand.tmp 0), g := none },
                    { dst := some 11, op := SOp.len (Operand.tmp 10), g := none },
                    { dst := some 12,
                      op := SOp.bin BinOp.gtr (Operand.tmp 11) (Operand.const (Value.int IntKind.i64 (Int.ofNat 128))),
                      g := none }]).seq
              (SC.cond (Operand.tmp 12)
                ((SC.ops false
                      [{ dst := some 2, op := SOp.mov (Operand.const (Value.int IntKind.i64 (Int.ofNat 8))),
                          g := none }]).seq
                  SC.ret)
                SC.skip)).seq
          (((SC.ops false
                    [{ dst := some 13, op := SOp.mov (Operand.tmp 0), g := none },
                      { dst := some 14, op := SOp.len (Operand.tmp 13), g := none },
                      { dst := some 15, op := SOp.mov (Operand.const (Value.int IntKind.i64 (Int.ofNat 0))),
                        g := none }]).seq
                (SC.block 0
                  ((SC.ops false
                          [{ dst := some 16, op := SOp.bin BinOp.lss (Operand.tmp 15) (Operand.tmp 14),
                              g := none }]).seq
                      ((SC.cond (Operand.tmp 16) SC.skip (SC.exit 0)).seq
                        ((SC.block 1
                              ((SC.ops false
                                    [{ dst := some 17, op := SOp.mov (Operand.tmp 15), g := none },
                                      { dst := some 18, op := SOp.idx 5 (Operand.tmp 13) (Operand.tmp 15), g := none },
                                      { dst := some 19, op := SOp.loadN 5 (Operand.tmp 18), g := none },
                                      { dst := some 4,
                                        op :=
                                          SOp.alloc 27
                                            [Value.int IntKind.i64 (Int.ofNat 0), Value.int IntKind.i64 (Int.ofNat 0),
                                              Value.int IntKind.i64 (Int.ofNat 0), Value.int IntKind.i64 (Int.ofNat 0),
                                              Value.slice none 0 0],
                                        g := none },
                                      { dst := some 3, op := SOp.mov (Operand.tmp 17), g := none },
                                      { dst := none, op := SOp.store 5 (Operand.tmp 4) (Operand.tmp 19),
                                        g := none }]).seq
                                (((SC.ops false
                                          [{ dst := some 20, op := SOp.loadN 5 (Operand.tmp 4), g := none },
                                            { dst := some 21, op := SOp.call 35 [Operand.tmp 20], g := none },
                                            { dst := some 5, op := SOp.mov (Operand.tmp 21), g := none }]).seq
                                      ((SC.ops false
                                            [{ dst := some 22, op := SOp.mov (Operand.tmp 5), g := none },
                                              { dst := some 23,
                                                op :=
                                                  SOp.bin BinOp.neq (Operand.tmp 22)
                                                    (Operand.const (Value.int IntKind.i64 (Int.ofNat 0))),
                                                g := none }]).seq
                                        (SC.cond (Operand.tmp 23)
                                          ((SC.ops false
                                                [{ dst := some 24, op := SOp.mov (Operand.tmp 5), g := none },
                                                  { dst := some 2, op := SOp.mov (Operand.tmp 24), g := none }]).seq
                                            SC.ret)
                                          SC.skip))).seq
                                  (((SC.ops true
                                            [{ dst := some 25, op := SOp.mov (Operand.tmp 3), g := none },
                                              { dst := some 26,
                                                op :=
                                                  SOp.bin BinOp.gtr (Operand.tmp 25)
                                                    (Operand.const (Value.int IntKind.i64 (Int.ofNat 0))),
                                                g := none },
                                              { dst := some 27, op := SOp.mov (Operand.tmp 26), g := none },
                                              { dst := some 28, op := SOp.mov (Operand.tmp 0), g := some (27, true) },
                                              { dst := some 29, op := SOp.mov (Operand.tmp 3), g := some (27, true) },
                                              { dst := some 30,
                                                op :=
                                                  SOp.bin BinOp.sub (Operand.tmp 29)
                                                    (Operand.const (Value.int IntKind.i64 (Int.ofNat 1))),
                                                g := some (27, true) },
                                              { dst := some 31, op := SOp.idx 5 (Operand.tmp 28) (Operand.tmp 30),
                                                g := some (27, true) },
                                              { dst := some 32, op := SOp.fld 0 (Operand.tmp 31),
                                                g := some (27, true) },
                                              { dst := some 33, op := SOp.load1 (Operand.tmp 32),
                                                g := some (27, true) },
                                              { dst := some 34, op := SOp.fld 0 (Operand.tmp 4), g := some (27, true) },
                                              { dst := some 35, op := SOp.load1 (Operand.tmp 34),
                                                g := some (27, true) },
                                              { dst := some 36,
                                                op := SOp.bin BinOp.geq (Operand.tmp 33) (Operand.tmp 35),
                                                g := some (27, true) },
                                              { dst := some 37,
                                                op := SOp.pick 27 (Operand.tmp 36) (Operand.const (Value.bool false)),
                                                g := none }]).seq
                                        (SC.cond (Operand.tmp 37)
                                          ((SC.ops false
                                                [{ dst := some 2,
                                                    op := SOp.mov (Operand.const (Value.int IntKind.i64 (Int.ofNat 5))),
                                                    g := none }]).seq
                                            SC.ret)
                                          SC.skip)).seq
                                    ((SC.ops false
                                          [{ dst := some 38, op := SOp.fld 4 (Operand.tmp 4), g := none },
                                            { dst := some 39, op := SOp.load1 (Operand.tmp 38), g := none },
                                            { dst := some 40, op := SOp.len (Operand.tmp 39), g := none },
                                            { dst := some 41,
                                              op := SOp.mov (Operand.const (Value.int IntKind.i64 (Int.ofNat 0))),
                                              g := none }]).seq
                                      (SC.block 2
                                        ((SC.ops false
                                                [{ dst := some 42,
                                                    op := SOp.bin BinOp.lss (Operand.tmp 41) (Operand.tmp 40),
                                                    g := none }]).seq
                                            ((SC.cond (Operand.tmp 42) SC.skip (SC.exit 2)).seq
                                              ((SC.block 3
                                                    ((SC.ops false
                                                          [{ dst := some 43,
                                                              op := SOp.idx 2 (Operand.tmp 39) (Operand.tmp 41),
                                                              g := none },
                                                            { dst := some 44, op := SOp.loadN 2 (Operand.tmp 43),
                                                              g := none },
                                                            { dst := some 7,
                                                              op :=
                                                                SOp.alloc 41
                                                                  [Value.int IntKind.i64 (Int.ofNat 0),
                                                                    Value.int IntKind.i64 (Int.ofNat 0)],
                                                              g := none },
                                                            { dst := none,
                                                              op := SOp.store 2 (Operand.tmp 7) (Operand.tmp 44),
                                                              g := none }]).seq
                                                      (((SC.ops false
                                                                [{ dst := some 45, op := SOp.loadN 5 (Operand.tmp 4),
                                                                    g := none },
                                                                  { dst := some 46, op := SOp.fld 0 (Operand.tmp 7),
                                                                    g := none },
                                                                  { dst := some 47, op := SOp.load1 (Operand.tmp 46),
                                                                    g := none },
                                                                  { dst := some 48,
                                                                    op := SOp.call 36 [Operand.tmp 45, Operand.tmp 47],
                                                                    g := none },
                                                                  { dst := some 49,
                                                                    op :=
                                                                      SOp.bin BinOp.gtr (Operand.tmp 48)
                                                                        (Operand.const
                                                                          (Value.int IntKind.i64 (Int.ofNat 1))),
                                                                    g := none }]).seq
                                                            (SC.cond (Operand.tmp 49)
                                                              ((SC.ops false
                                                                    [{ dst := some 2,
                                                                        op :=
                                                                          SOp.mov
                                                                            (Operand.const
                                                                              (Value.int IntKind.i64 (Int.ofNat 6))),
                                                                        g := none }]).seq
                                                                SC.ret)
                                                              SC.skip)).seq
                                                        ((SC.ops false
                                                              [{ dst := some 50, op := SOp.mov (Operand.tmp 0),
                                                                  g := none },
                                                                { dst := some 51, op := SOp.mov (Operand.tmp 3),
                                                                  g := none },
                                                                { dst := some 52,
                                                                  op :=
                                                                    SOp.slice 5 (Operand.tmp 50) none
                                                                      (some (Operand.tmp 51)),
                                                                  g := none },
                                                                { dst := some 53, op := SOp.len (Operand.tmp 52),
                                                                  g := none },
                                                                { dst := some 54,
                                                                  op :=
                                                                    SOp.mov
                                                                      (Operand.const
                                                                        (Value.int IntKind.i64 (Int.ofNat 0))),
                                                                  g := none }]).seq
                                                          (SC.block 4
                                                            ((SC.ops false
                                                                    [{ dst := some 55,
                                                                        op :=
                                                                          SOp.bin BinOp.lss (Operand.tmp 54)
                                                                            (Operand.tmp 53),
                                                                        g := none }]).seq
                                                                ((SC.cond (Operand.tmp 55) SC.skip (SC.exit 4)).seq
                                                                  ((SC.block 5
                                                                        ((SC.ops false
                                                                              [{ dst := some 56,
                                                                                  op :=
                                                                                    SOp.idx 5 (Operand.tmp 52)
                                                                                      (Operand.tmp 54),
                                                                                  g := none },
                                                                                { dst := some 57,
                                                                                  op := SOp.loadN 5 (Operand.tmp 56),
                                                                                  g := none },
                                                                                { dst := some 9,
                                                                                  op :=
                                                                                    SOp.alloc 27
                                                                                      [Value.int IntKind.i64
                                                                                          (Int.ofNat 0),
                                                                                        Value.int IntKind.i64
                                                                                          (Int.ofNat 0),
                                                                                        Value.int IntKind.i64
                                                                                          (Int.ofNat 0),
                                                                                        Value.int IntKind.i64
                                                                                          (Int.ofNat 0),
                                                                                        Value.slice none 0 0],
                                                                                  g := none },
                                                                                { dst := none,
                                                                                  op :=
                                                                                    SOp.store 5 (Operand.tmp 9)
                                                                                      (Operand.tmp 57),
                                                                                  g := none }]).seq
                                                                          ((SC.ops false
                                                                                [{ dst := some 58,
                                                                                    op := SOp.loadN 5 (Operand.tmp 9),
                                                                                    g := none },
                                                                                  { dst := some 59,
                                                                                    op := SOp.fld 0 (Operand.tmp 7),
                                                                                    g := none },
                                                                                  { dst := some 60,
                                                                                    op := SOp.load1 (Operand.tmp 59),
                                                                                    g := none },
                                                                                  { dst := some 61,
                                                                                    op :=
                                                                                      SOp.call 36
                                                                                        [Operand.tmp 58,
                                                                                          Operand.tmp 60],
                                                                                    g := none },
                                                                                  { dst := some 62,
                                                                                    op :=
                                                                                      SOp.bin BinOp.gtr (Operand.tmp 61)
                                                                                        (Operand.const
                                                                                          (Value.int IntKind.i64
                                                                                            (Int.ofNat 0))),
                                                                                    g := none }]).seq
                                                                            (SC.cond (Operand.tmp 62)
                                                                              ((SC.ops false
                                                                                    [{ dst := some 2,
                                                                                        op :=
                                                                                          SOp.mov
                                                                                            (Operand.const
                                                                                              (Value.int IntKind.i64
                                                                                                (Int.ofNat 6))),
                                                                                        g := none }]).seq
                                                                                SC.ret)
                                                                              SC.skip)))).seq
                                                                    (SC.ops false
                                                                      [{ dst := some 63,
                                                                          op :=
                                                                            SOp.bin BinOp.add (Operand.tmp 54)
                                                                              (Operand.const
                                                                                (Value.int IntKind.i64 (Int.ofNat 1))),
                                                                          g := none },
                                                                        { dst := some 54,
                                                                          op := SOp.mov (Operand.tmp 63),
                                                                          g := none }])))).loop))))).seq
                                                (SC.ops false
                                                  [{ dst := some 64,
                                                      op :=
                                                        SOp.bin BinOp.add (Operand.tmp 41)
                                                          (Operand.const (Value.int IntKind.i64 (Int.ofNat 1))),
                                                      g := none },
                                                    { dst := some 41, op := SOp.mov (Operand.tmp 64),
                                                      g := none }])))).loop)))))).seq
                          (SC.ops false
                            [{ dst := some 65,
                                op :=
                                  SOp.bin BinOp.add (Operand.tmp 15)
                                    (Operand.const (Value.int IntKind.i64 (Int.ofNat 1))),
                                g := none },
                              { dst := some 15, op := SOp.mov (Operand.tmp 65), g := none }])))).loop)).seq
            ((SC.ops false
                  [{ dst := some 2, op := SOp.mov (Operand.const (Value.int IntKind.i64 (Int.ofNat 0))),
                      g := none }]).seq
              SC.ret))),
    res := [SR.tmp 2] }
theorem F18_ok : slimFn Try.prog hv Try.f18 = some F18 := by kernel_rfl
def F19 : Fn :=

  { N := 84,
    code :=
      (SC.ops false
            [{ dst := some 8, op := SOp.mov (Operand.const (Value.slice none 0 0)), g := none },
              { dst := some 9, op := SOp.mov (Operand.const (Value.int IntKind.i64 (Int.ofNat 0))), g := none }]).seq
        (((SC.ops false
                  [{ dst := some 13, op := SOp.mov (Operand.tmp 0), g := none },
                    { dst := some 14, op := SOp.call 17 [Operand.tmp 13], g := none },
                    { dst := some 15,
                      op := SOp.bin BinOp.neq (Operand.tmp 14) (Operand.const (Value.int IntKind.i64 (Int.ofNat 0))),
                      g := none }]).seq
              (SC.cond (Operand.tmp 15)
                ((SC.ops false
                      [{ dst := some 8, op := SOp.mov (Operand.const (Value.slice none 0 0)), g := none },
                        { dst := some 9, op := SOp.mov (Operand.const (Value.int IntKind.i64 (Int.ofNat 1))),
                          g := none }]).seq
                  SC.ret)
                SC.skip)).seq
          ((SC.ops false
                [{ dst := some 16, op := SOp.mov (Operand.tmp 0), g := none },
                  { dst := some 17, op := SOp.mov (Operand.tmp 1), g := none },
                  { dst := some 18, op := SOp.call 37 [Operand.tmp 16, Operand.tmp 17], g := none },
                  { dst := some 10, op := SOp.mov (Operand.tmp 18), g := none }]).seq
            ((SC.block 0
                  ((SC.ops false
                        [{ dst := some 20, op := SOp.mov (Operand.tmp 10), g := none },
                          { dst := some 21,
                            op :=
                              SOp.bin BinOp.lss (Operand.tmp 20) (Operand.const (Value.int IntKind.i64 (Int.ofNat 0))),
                            g := none },
                          { dst := some 19, op := SOp.mov (Operand.tmp 21), g := none }]).seq
                    (SC.cond (Operand.tmp 19)
                      ((SC.ops false
                            [{ dst := some 8, op := SOp.mov (Operand.const (Value.slice none 0 0)), g := none },
                              { dst := some 9, op := SOp.mov (Operand.const (Value.int IntKind.i64 (Int.ofNat 7))),
                                g := none }]).seq
                        SC.ret)
                      ((SC.ops false
                            [{ dst := some 23, op := SOp.mov (Operand.tmp 2), g := none },
                              { dst := some 24, op := SOp.mov (Operand.tmp 0), g := none },
                              { dst := some 25, op := SOp.mov (Operand.tmp 10), g := none },
                              { dst := some 26, op := SOp.idx 5 (Operand.tmp 24) (Operand.tmp 25), g := none },
                              { dst := some 27, op := SOp.fld 4 (Operand.tmp 26), g := none },
                              { dst := some 28, op := SOp.load1 (Operand.tmp 27), g := none },
                              { dst := some 29, op := SOp.len (Operand.tmp 28), g := none },
                              { dst := some 30,
                                op :=
                                  SOp.call 38
                                    [Operand.tmp 23, Operand.const (Value.int IntKind.i64 (Int.ofNat 0)),
                                      Operand.tmp 29],
                                g := none },
                              { dst := some 31, op := SOp.un UnOp.not (Operand.tmp 30), g := none },
                              { dst := some 32, op := SOp.mov (Operand.tmp 31), g := none },
                              { dst := some 33, op := SOp.mov (Operand.tmp 3), g := some (32, false) },
                              { dst := some 34,
                                op :=
                                  SOp.call 38
                                    [Operand.tmp 33, Operand.const (Value.int IntKind.i64 (Int.ofNat 1)),
                                      Operand.const (Value.int IntKind.i64 (Int.ofNat 1073741824))],
                                g := some (32, false) },
                              { dst := some 35, op := SOp.un UnOp.not (Operand.tmp 34), g := some (32, false) },
                              { dst := some 36, op := SOp.pick 32 (Operand.const (Value.bool true)) (Operand.tmp 35),
                                g := none },
                              { dst := some 22, op := SOp.mov (Operand.tmp 36), g := none }]).seq
                        (SC.cond (Operand.tmp 22)
                          ((SC.ops false
                                [{ dst := some 8, op := SOp.mov (Operand.const (Value.slice none 0 0)), g := none },
                                  { dst := some 9, op := SOp.mov (Operand.const (Value.int IntKind.i64 (Int.ofNat 2))),
                                    g := none }]).seq
                            SC.ret)
                          ((SC.ops false
                                [{ dst := some 38, op := SOp.mov (Operand.tmp 3), g := none },
                                  { dst := some 39, op := SOp.mov (Operand.tmp 0), g := none },
                                  { dst := some 40, op := SOp.mov (Operand.tmp 0), g := none },
                                  { dst := some 41, op := SOp.len (Operand.tmp 40), g := none },
                                  { dst := some 42,
                                    op :=
                                      SOp.bin BinOp.sub (Operand.tmp 41)
                                        (Operand.const (Value.int IntKind.i64 (Int.ofNat 1))),
                                    g := none },
                                  { dst := some 43, op := SOp.idx 5 (Operand.tmp 39) (Operand.tmp 42), g := none },
                                  { dst := some 44, op := SOp.fld 0 (Operand.tmp 43), g := none },
                                  { dst := some 45, op := SOp.load1 (Operand.tmp 44), g := none },
                                  { dst := some 46, op := SOp.bin BinOp.leq (Operand.tmp 38) (Operand.tmp 45),
                                    g := none },
                                  { dst := some 37, op := SOp.mov (Operand.tmp 46), g := none }]).seq
                            (SC.cond (Operand.tmp 37)
                              ((SC.ops false
                                    [{ dst := some 8, op := SOp.mov (Operand.const (Value.slice none 0 0)), g := none },
                                      { dst := some 9,
                                        op := SOp.mov (Operand.const (Value.int IntKind.i64 (Int.ofNat 5))),
                                        g := none }]).seq
                                SC.ret)
                              ((SC.ops false
                                    [{ dst := some 48, op := SOp.mov (Operand.tmp 0), g := none },
                                      { dst := some 49, op := SOp.len (Operand.tmp 48), g := none },
                                      { dst := some 50,
                                        op :=
                                          SOp.bin BinOp.geq (Operand.tmp 49)
                                            (Operand.const (Value.int IntKind.i64 (Int.ofNat 128))),
                                        g := none },
                                      { dst := some 47, op := SOp.mov (Operand.tmp 50), g := none }]).seq
                                (SC.cond (Operand.tmp 47)
                                  ((SC.ops false
                                        [{ dst := some 8, op := SOp.mov (Operand.const (Value.slice none 0 0)),
                                            g := none },
                                          { dst := some 9,
                                            op := SOp.mov (Operand.const (Value.int IntKind.i64 (Int.ofNat 12))),
                                            g := none }]).seq
                                    SC.ret)
                                  SC.skip))))))))).seq
              ((SC.ops false
                    [{ dst := some 51, op := SOp.mov (Operand.tmp 0), g := none },
                      { dst := some 52, op := SOp.call 39 [Operand.tmp 51], g := none },
                      { dst := some 11, op := SOp.mov (Operand.tmp 52), g := none }]).seq
                ((SC.ops false
                      [{ dst := some 53, op := SOp.mov (Operand.tmp 11), g := none },
                        { dst := some 54, op := SOp.mov (Operand.tmp 10), g := none },
                        { dst := some 55, op := SOp.idx 5 (Operand.tmp 53) (Operand.tmp 54), g := none },
                        { dst := some 56, op := SOp.loadN 5 (Operand.tmp 55), g := none },
                        { dst := some 12,
                          op :=
                            SOp.alloc 27
                              [Value.int IntKind.i64 (Int.ofNat 0), Value.int IntKind.i64 (Int.ofNat 0),
                                Value.int IntKind.i64 (Int.ofNat 0), Value.int IntKind.i64 (Int.ofNat 0),
                                Value.slice none 0 0],
                          g := none },
                        { dst := none, op := SOp.store 5 (Operand.tmp 12) (Operand.tmp 56), g := none }]).seq
                  ((SC.ops false
                        [{ dst := some 57, op := SOp.mov (Operand.tmp 3), g := none },
                          { dst := some 58, op := SOp.mov (Operand.tmp 11), g := none },
                          { dst := some 59, op := SOp.mov (Operand.tmp 10), g := none },
                          { dst := some 60, op := SOp.idx 5 (Operand.tmp 58) (Operand.tmp 59), g := none },
                          { dst := some 61, op := SOp.fld 4 (Operand.tmp 60), g := none },
                          { dst := some 62, op := SOp.load1 (Operand.tmp 61), g := none },
                          { dst := some 63, op := SOp.mov (Operand.tmp 2), g := none },
                          { dst := some 64, op := SOp.slice 2 (Operand.tmp 62) (some (Operand.tmp 63)) none,
                            g := none },
                          { dst := some 65, op := SOp.call 40 [Operand.tmp 64], g := none },
                          { dst := some 66, op := SOp.fld 0 (Operand.tmp 12), g := none },
                          { dst := none, op := SOp.store 1 (Operand.tmp 66) (Operand.tmp 57), g := none },
                          { dst := some 67, op := SOp.fld 4 (Operand.tmp 12), g := none },
                          { dst := none, op := SOp.store 1 (Operand.tmp 67) (Operand.tmp 65), g := none }]).seq
                    ((SC.ops false
                          [{ dst := some 68, op := SOp.mov (Operand.tmp 11), g := none },
                            { dst := some 69, op := SOp.mov (Operand.tmp 10), g := none },
                            { dst := some 70, op := SOp.mov (Operand.tmp 11), g := none },
                            { dst := some 71, op := SOp.mov (Operand.tmp 10), g := none },
                            { dst := some 72, op := SOp.idx 5 (Operand.tmp 70) (Operand.tmp 71), g := none },
                            { dst := some 73, op := SOp.fld 4 (Operand.tmp 72), g := none },
                            { dst := some 74, op := SOp.load1 (Operand.tmp 73), g := none },
                            { dst := some 75, op := SOp.mov (Operand.tmp 2), g := none },
                            { dst := some 76, op := SOp.slice 2 (Operand.tmp 74) none (some (Operand.tmp 75)),
                              g := none },
                            { dst := some 77, op := SOp.call 40 [Operand.tmp 76], g := none },
                            { dst := some 78, op := SOp.idx 5 (Operand.tmp 68) (Operand.tmp 69), g := none },
                            { dst := some 79, op := SOp.fld 4 (Operand.tmp 78), g := none },
                            { dst := none, op := SOp.store 1 (Operand.tmp 79) (Operand.tmp 77), g := none }]).seq
                      ((SC.ops false
                            [{ dst := some 80, op := SOp.mov (Operand.tmp 11), g := none },
                              { dst := some 81, op := SOp.loadN 5 (Operand.tmp 12), g := none },
                              { dst := some 82,
                                op :=
                                  SOp.buildS 27 5 1
                                    [Value.int IntKind.i64 (Int.ofNat 0), Value.int IntKind.i64 (Int.ofNat 0),
                                      Value.int IntKind.i64 (Int.ofNat 0), Value.int IntKind.i64 (Int.ofNat 0),
                                      Value.slice none 0 0]
                                    [(0, Operand.tmp 81)],
                                g := none },
                              { dst := some 83,
                                op :=
                                  SOp.app 27 5 56
                                    [Value.int IntKind.i64 (Int.ofNat 0), Value.int IntKind.i64 (Int.ofNat 0),
                                      Value.int IntKind.i64 (Int.ofNat 0), Value.int IntKind.i64 (Int.ofNat 0),
                                      Value.slice none 0 0]
                                    (Operand.tmp 80) (Operand.tmp 82),
                                g := none },
                              { dst := some 8, op := SOp.mov (Operand.tmp 83), g := none },
                              { dst := some 9, op := SOp.mov (Operand.const (Value.int IntKind.i64 (Int.ofNat 0))),
                                g := none }]).seq
                        SC.ret)))))))),
    res := [SR.tmp 8, SR.tmp 9] }
theorem F19_ok : slimFn Try.prog hv Try.f19 = some F19 := by kernel_rfl
def F20 : Fn :=

  { N := 86,
    code :=
      (SC.ops false
            [{ dst := some 8, op := SOp.mov (Operand.const (Value.slice none 0 0)), g := none },
              { dst := some 9, op := SOp.mov (Operand.const (Value.int IntKind.i64 (Int.ofNat 0))), g := none }]).seq
        (((SC.ops false
                  [{ dst := some 13, op := SOp.mov (Operand.tmp 0), g := none },
                    { dst := some 14, op := SOp.call 18 [Operand.tmp 13], g := none },
                    { dst := some 15,
                      op := SOp.bin BinOp.neq (Operand.tmp 14) (Operand.const (Value.int IntKind.i64 (Int.ofNat 0))),
                      g := none }]).seq
              (SC.cond (Operand.tmp 15)
                ((SC.ops false
                      [{ dst := some 8, op := SOp.mov (Operand.const (Value.slice none 0 0)), g := none },
                        { dst := some 9, op := SOp.mov (Operand.const (Value.int IntKind.i64 (Int.ofNat 1))),
                          g := none }]).seq
                  SC.ret)
                SC.skip)).seq
          ((SC.ops false
                [{ dst := some 16, op := SOp.mov (Operand.tmp 0), g := none },
                  { dst := some 17, op := SOp.mov (Operand.tmp 1), g := none },
                  { dst := some 18, op := SOp.call 41 [Operand.tmp 16, Operand.tmp 17], g := none },
                  { dst := some 10, op := SOp.mov (Operand.tmp 18), g := none }]).seq
            (((SC.ops false
                      [{ dst := some 19, op := SOp.mov (Operand.tmp 10), g := none },
                        { dst := some 20,
                          op :=
                            SOp.bin BinOp.lss (Operand.tmp 19) (Operand.const (Value.int IntKind.i64 (Int.ofNat 0))),
                          g := none }]).seq
                  (SC.cond (Operand.tmp 20)
                    ((SC.ops false
                          [{ dst := some 8, op := SOp.mov (Operand.const (Value.slice none 0 0)), g := none },
                            { dst := some 9, op := SOp.mov (Operand.const (Value.int IntKind.i64 (Int.ofNat 7))),
                              g := none }]).seq
                      SC.ret)
                    SC.skip)).seq
              (((SC.ops false
                        [{ dst := some 21, op := SOp.mov (Operand.tmp 2), g := none },
                          { dst := some 22,
                            op :=
                              SOp.bin BinOp.lss (Operand.tmp 21) (Operand.const (Value.int IntKind.i64 (Int.ofNat 0))),
                            g := none },
                          { dst := some 23, op := SOp.mov (Operand.tmp 22), g := none },
                          { dst := some 24, op := SOp.mov (Operand.tmp 2), g := some (23, false) },
                          { dst := some 25, op := SOp.mov (Operand.tmp 0), g := some (23, false) },
                          { dst := some 26, op := SOp.mov (Operand.tmp 10), g := some (23, false) },
                          { dst := some 27, op := SOp.idx 5 (Operand.tmp 25) (Operand.tmp 26), g := some (23, false) },
                          { dst := some 28, op := SOp.fld 4 (Operand.tmp 27), g := some (23, false) },
                          { dst := some 29, op := SOp.load1 (Operand.tmp 28), g := some (23, false) },
                          { dst := some 30, op := SOp.len (Operand.tmp 29), g := some (23, false) },
                          { dst := some 31, op := SOp.bin BinOp.gtr (Operand.tmp 24) (Operand.tmp 30),
                            g := some (23, false) },
                          { dst := some 32, op := SOp.pick 23 (Operand.const (Value.bool true)) (Operand.tmp 31),
                            g := none },
                          { dst := some 33, op := SOp.mov (Operand.tmp 32), g := none },
                          { dst := some 34, op := SOp.mov (Operand.tmp 3), g := some (33, false) },
                          { dst := some 35,
                            op :=
                              SOp.bin BinOp.lss (Operand.tmp 34) (Operand.const (Value.int IntKind.i64 (Int.ofNat 1))),
                            g := some (33, false) },
                          { dst := some 36, op := SOp.pick 33 (Operand.const (Value.bool true)) (Operand.tmp 35),
                            g := none },
                          { dst := some 37, op := SOp.mov (Operand.tmp 36), g := none },
                          { dst := some 38, op := SOp.mov (Operand.tmp 3), g := some (37, false) },
                          { dst := some 39,
                            op :=
                              SOp.bin BinOp.gtr (Operand.tmp 38)
                                (Operand.const (Value.int IntKind.i64 (Int.ofNat 1073741824))),
                            g := some (37, false) },
                          { dst := some 40, op := SOp.pick 37 (Operand.const (Value.bool true)) (Operand.tmp 39),
                            g := none }]).seq
                    (SC.cond (Operand.tmp 40)
                      ((SC.ops false
                            [{ dst := some 8, op := SOp.mov (Operand.const (Value.slice none 0 0)), g := none },
                              { dst := some 9, op := SOp.mov (Operand.const (Value.int IntKind.i64 (Int.ofNat 2))),
                                g := none }]).seq
                        SC.ret)
                      SC.skip)).seq
                (((SC.ops false
                          [{ dst := some 41, op := SOp.mov (Operand.tmp 3), g := none },
                            { dst := some 42, op := SOp.mov (Operand.tmp 0), g := none },
                            { dst := some 43, op := SOp.mov (Operand.tmp 0), g := none },
                            { dst := some 44, op := SOp.len (Operand.tmp 43), g := none },
                            { dst := some 45,
                              op :=
                                SOp.bin BinOp.sub (Operand.tmp 44)
                                  (Operand.const (Value.int IntKind.i64 (Int.ofNat 1))),
                              g := none },
                            { dst := some 46, op := SOp.idx 5 (Operand.tmp 42) (Operand.tmp 45), g := none },
                            { dst := some 47, op := SOp.fld 0 (Operand.tmp 46), g := none },
                            { dst := some 48, op := SOp.load1 (Operand.tmp 47), g := none },
                            { dst := some 49, op := SOp.bin BinOp.leq (Operand.tmp 41) (Operand.tmp 48),
                              g := none }]).seq
                      (SC.cond (Operand.tmp 49)
                        ((SC.ops false
                              [{ dst := some 8, op := SOp.mov (Operand.const (Value.slice none 0 0)), g := none },
                                { dst := some 9, op := SOp.mov (Operand.const (Value.int IntKind.i64 (Int.ofNat 5))),
                                  g := none }]).seq
                          SC.ret)
                        SC.skip)).seq
                  (((SC.ops false
                            [{ dst := some 50, op := SOp.mov (Operand.tmp 0), g := none },
                              { dst := some 51, op := SOp.len (Operand.tmp 50), g := none },
                              { dst := some 52,
                                op :=
                                  SOp.bin BinOp.eql (Operand.tmp 51)
                                    (Operand.const (Value.int IntKind.i64 (Int.ofNat 128))),
                                g := none }]).seq
                        (SC.cond (Operand.tmp 52)
                          ((SC.ops false
                                [{ dst := some 8, op := SOp.mov (Operand.const (Value.slice none 0 0)), g := none },
                                  { dst := some 9, op := SOp.mov (Operand.const (Value.int IntKind.i64 (Int.ofNat 12))),
                                    g := none }]).seq
                            SC.ret)
                          SC.skip)).seq
                    ((SC.ops false
                          [{ dst := some 53, op := SOp.mov (Operand.tmp 0), g := none },
                            { dst := some 54, op := SOp.call 13 [Operand.tmp 53], g := none },
                            { dst := some 11, op := SOp.mov (Operand.tmp 54), g := none }]).seq
                      ((SC.ops false
                            [{ dst := some 55, op := SOp.mov (Operand.tmp 11), g := none },
                              { dst := some 56, op := SOp.mov (Operand.tmp 10), g := none },
                              { dst := some 57, op := SOp.idx 5 (Operand.tmp 55) (Operand.tmp 56), g := none },
                              { dst := some 58, op := SOp.loadN 5 (Operand.tmp 57), g := none },
                              { dst := some 12,
                                op :=
                                  SOp.alloc 27
                                    [Value.int IntKind.i64 (Int.ofNat 0), Value.int IntKind.i64 (Int.ofNat 0),
                                      Value.int IntKind.i64 (Int.ofNat 0), Value.int IntKind.i64 (Int.ofNat 0),
                                      Value.slice none 0 0],
                                g := none },
                              { dst := none, op := SOp.store 5 (Operand.tmp 12) (Operand.tmp 58), g := none }]).seq
                        ((SC.ops false
                              [{ dst := some 59, op := SOp.mov (Operand.tmp 3), g := none },
                                { dst := some 60,
                                  op :=
                                    SOp.buildS 41 2 0
                                      [Value.int IntKind.i64 (Int.ofNat 0), Value.int IntKind.i64 (Int.ofNat 0)] [],
                                  g := none },
                                { dst := some 61, op := SOp.mov (Operand.tmp 0), g := none },
                                { dst := some 62, op := SOp.mov (Operand.tmp 10), g := none },
                                { dst := some 63, op := SOp.idx 5 (Operand.tmp 61) (Operand.tmp 62), g := none },
                                { dst := some 64, op := SOp.fld 4 (Operand.tmp 63), g := none },
                                { dst := some 65, op := SOp.load1 (Operand.tmp 64), g := none },
                                { dst := some 66, op := SOp.mov (Operand.tmp 2), g := none },
                                { dst := some 67, op := SOp.slice 2 (Operand.tmp 65) (some (Operand.tmp 66)) none,
                                  g := none },
                                { dst := some 68,
                                  op :=
                                    SOp.app 41 2 16
                                      [Value.int IntKind.i64 (Int.ofNat 0), Value.int IntKind.i64 (Int.ofNat 0)]
                                      (Operand.tmp 60) (Operand.tmp 67),
                                  g := none },
                                { dst := some 69, op := SOp.fld 0 (Operand.tmp 12), g := none },
                                { dst := none, op := SOp.store 1 (Operand.tmp 69) (Operand.tmp 59), g := none },
                                { dst := some 70, op := SOp.fld 4 (Operand.tmp 12), g := none },
                                { dst := none, op := SOp.store 1 (Operand.tmp 70) (Operand.tmp 68), g := none }]).seq
                          ((SC.ops false
                                [{ dst := some 71, op := SOp.mov (Operand.tmp 11), g := none },
                                  { dst := some 72, op := SOp.mov (Operand.tmp 10), g := none },
                                  { dst := some 73, op := SOp.mov (Operand.tmp 11), g := none },
                                  { dst := some 74, op := SOp.mov (Operand.tmp 10), g := none },
                                  { dst := some 75, op := SOp.idx 5 (Operand.tmp 73) (Operand.tmp 74), g := none },
                                  { dst := some 76, op := SOp.fld 4 (Operand.tmp 75), g := none },
                                  { dst := some 77, op := SOp.load1 (Operand.tmp 76), g := none },
                                  { dst := some 78, op := SOp.mov (Operand.tmp 2), g := none },
                                  { dst := some 79, op := SOp.slice 2 (Operand.tmp 77) none (some (Operand.tmp 78)),
                                    g := none },
                                  { dst := some 80, op := SOp.idx 5 (Operand.tmp 71) (Operand.tmp 72), g := none },
                                  { dst := some 81, op := SOp.fld 4 (Operand.tmp 80), g := none },
                                  { dst := none, op := SOp.store 1 (Operand.tmp 81) (Operand.tmp 79), g := none }]).seq
                            ((SC.ops false
                                  [{ dst := some 82, op := SOp.mov (Operand.tmp 11), g := none },
                                    { dst := some 83, op := SOp.loadN 5 (Operand.tmp 12), g := none },
                                    { dst := some 84,
                                      op :=
                                        SOp.buildS 27 5 1
                                          [Value.int IntKind.i64 (Int.ofNat 0), Value.int IntKind.i64 (Int.ofNat 0),
                                            Value.int IntKind.i64 (Int.ofNat 0), Value.int IntKind.i64 (Int.ofNat 0),
                                            Value.slice none 0 0]
                                          [(0, Operand.tmp 83)],
                                      g := none },
                                    { dst := some 85,
                                      op :=
                                        SOp.app 27 5 56
                                          [Value.int IntKind.i64 (Int.ofNat 0), Value.int IntKind.i64 (Int.ofNat 0),
                                            Value.int IntKind.i64 (Int.ofNat 0), Value.int IntKind.i64 (Int.ofNat 0),
                                            Value.slice none 0 0]
                                          (Operand.tmp 82) (Operand.tmp 84),
                                      g := none },
                                    { dst := some 8, op := SOp.mov (Operand.tmp 85), g := none },
                                    { dst := some 9,
                                      op := SOp.mov (Operand.const (Value.int IntKind.i64 (Int.ofNat 0))),
                                      g := none }]).seq
                              SC.ret))))))))))),
    res := [SR.tmp 8, SR.tmp 9] }
theorem F20_ok : slimFn Try.prog hv Try.f20 = some F20 := by kernel_rfl
def F21 : Fn :=

  { N := 79,
    code :=
      (SC.ops false
            [{ dst := some 7, op := SOp.box 41 (Operand.tmp 3), g := none },
              { dst := some 8, op := SOp.mov (Operand.const (Value.slice none 0 0)), g := none },
              { dst := some 9, op := SOp.mov (Operand.const (Value.int IntKind.i64 (Int.ofNat 0))), g := none }]).seq
        (((SC.ops false
                  [{ dst := some 15, op := SOp.mov (Operand.tmp 0), g := none },
                    { dst := some 16, op := SOp.call 17 [Operand.tmp 15], g := none },
                    { dst := some 17,
                      op := SOp.bin BinOp.neq (Operand.tmp 16) (Operand.const (Value.int IntKind.i64 (Int.ofNat 0))),
                      g := none }]).seq
              (SC.cond (Operand.tmp 17)
                ((SC.ops false
                      [{ dst := some 8, op := SOp.mov (Operand.const (Value.slice none 0 0)), g := none },
                        { dst := some 9, op := SOp.mov (Operand.const (Value.int IntKind.i64 (Int.ofNat 1))),
                          g := none }]).seq
                  SC.ret)
                SC.skip)).seq
          ((SC.ops false
                [{ dst := some 18, op := SOp.mov (Operand.tmp 0), g := none },
                  { dst := some 19, op := SOp.mov (Operand.tmp 1), g := none },
                  { dst := some 20, op := SOp.call 37 [Operand.tmp 18, Operand.tmp 19], g := none },
                  { dst := some 10, op := SOp.mov (Operand.tmp 20), g := none }]).seq
            (((SC.ops false
                      [{ dst := some 21, op := SOp.mov (Operand.tmp 10), g := none },
                        { dst := some 22,
                          op :=
                            SOp.bin BinOp.lss (Operand.tmp 21) (Operand.const (Value.int IntKind.i64 (Int.ofNat 0))),
                          g := none }]).seq
                  (SC.cond (Operand.tmp 22)
                    ((SC.ops false
                          [{ dst := some 8, op := SOp.mov (Operand.const (Value.slice none 0 0)), g := none },
                            { dst := some 9, op := SOp.mov (Operand.const (Value.int IntKind.i64 (Int.ofNat 7))),
                              g := none }]).seq
                      SC.ret)
                    SC.skip)).seq
              ((SC.ops false
                    [{ dst := some 24, op := SOp.mov (Operand.tmp 0), g := none },
                      { dst := some 25, op := SOp.fld 0 (Operand.tmp 7), g := none },
                      { dst := some 26, op := SOp.load1 (Operand.tmp 25), g := none },
                      { dst := some 27, op := SOp.call 33 [Operand.tmp 24, Operand.tmp 26], g := none },
                      { dst := some 23, op := SOp.mov (Operand.tmp 27), g := none },
                      { dst := some 28, op := SOp.ext (Operand.tmp 23) 0, g := none },
                      { dst := some 29, op := SOp.ext (Operand.tmp 23) 1, g := none },
                      { dst := some 11, op := SOp.mov (Operand.tmp 28), g := none },
                      { dst := some 12, op := SOp.mov (Operand.tmp 29), g := none }]).seq
                (((SC.ops false
                          [{ dst := some 30, op := SOp.mov (Operand.tmp 0), g := none },
                            { dst := some 31, op := SOp.mov (Operand.tmp 10), g := none },
                            { dst := some 32, op := SOp.idx 5 (Operand.tmp 30) (Operand.tmp 31), g := none },
                            { dst := some 33, op := SOp.loadN 5 (Operand.tmp 32), g := none },
                            { dst := some 13,
                              op :=
                                SOp.alloc 27
                                  [Value.int IntKind.i64 (Int.ofNat 0), Value.int IntKind.i64 (Int.ofNat 0),
                                    Value.int IntKind.i64 (Int.ofNat 0), Value.int IntKind.i64 (Int.ofNat 0),
                                    Value.slice none 0 0],
                              g := none },
                            { dst := none, op := SOp.store 5 (Operand.tmp 13) (Operand.tmp 33), g := none }]).seq
                      (SC.block 0
                        ((SC.ops false
                              [{ dst := some 35, op := SOp.mov (Operand.tmp 2), g := none },
                                { dst := some 36, op := SOp.fld 4 (Operand.tmp 13), g := none },
                                { dst := some 37, op := SOp.load1 (Operand.tmp 36), g := none },
                                { dst := some 38, op := SOp.len (Operand.tmp 37), g := none },
                                { dst := some 39,
                                  op :=
                                    SOp.call 38
                                      [Operand.tmp 35, Operand.const (Value.int IntKind.i64 (Int.ofNat 0)),
                                        Operand.tmp 38],
                                  g := none },
                                { dst := some 40, op := SOp.un UnOp.not (Operand.tmp 39), g := none },
                                { dst := some 41, op := SOp.mov (Operand.tmp 40), g := none },
                                { dst := some 42, op := SOp.loadN 2 (Operand.tmp 7), g := some (41, false) },
                                { dst := some 43, op := SOp.call 42 [Operand.tmp 42], g := some (41, false) },
                                { dst := some 44, op := SOp.un UnOp.not (Operand.tmp 43), g := some (41, false) },
                                { dst := some 45, op := SOp.pick 41 (Operand.const (Value.bool true)) (Operand.tmp 44),
                                  g := none },
                                { dst := some 34, op := SOp.mov (Operand.tmp 45), g := none }]).seq
                          (SC.cond (Operand.tmp 34)
                            ((SC.ops false
                                  [{ dst := some 8, op := SOp.mov (Operand.const (Value.slice none 0 0)), g := none },
                                    { dst := some 9,
                                      op := SOp.mov (Operand.const (Value.int IntKind.i64 (Int.ofNat 2))),
                                      g := none }]).seq
                              SC.ret)
                            ((SC.ops false
                                  [{ dst := some 47, op := SOp.mov (Operand.tmp 11), g := none },
                                    { dst := some 48,
                                      op :=
                                        SOp.bin BinOp.geq (Operand.tmp 47)
                                          (Operand.const (Value.int IntKind.i64 (Int.ofNat 0))),
                                      g := none },
                                    { dst := some 46, op := SOp.mov (Operand.tmp 48), g := none }]).seq
                              (SC.cond (Operand.tmp 46)
                                ((SC.ops false
                                      [{ dst := some 8, op := SOp.mov (Operand.const (Value.slice none 0 0)),
                                          g := none },
                                        { dst := some 9,
                                          op := SOp.mov (Operand.const (Value.int IntKind.i64 (Int.ofNat 6))),
                                          g := none }]).seq
                                  SC.ret)
                                ((SC.ops false
                                      [{ dst := some 50, op := SOp.fld 4 (Operand.tmp 13), g := none },
                                        { dst := some 51, op := SOp.load1 (Operand.tmp 50), g := none },
                                        { dst := some 52, op := SOp.len (Operand.tmp 51), g := none },
                                        { dst := some 53,
                                          op :=
                                            SOp.bin BinOp.geq (Operand.tmp 52)
                                              (Operand.const (Value.int IntKind.i64 (Int.ofNat 32))),
                                          g := none },
                                        { dst := some 49, op := SOp.mov (Operand.tmp 53), g := none }]).seq
                                  (SC.cond (Operand.tmp 49)
                                    ((SC.ops false
                                          [{ dst := some 8, op := SOp.mov (Operand.const (Value.slice none 0 0)),
                                              g := none },
                                            { dst := some 9,
                                              op := SOp.mov (Operand.const (Value.int IntKind.i64 (Int.ofNat 8))),
                                              g := none }]).seq
                                      SC.ret)
                                    ((SC.ops true
                                          [{ dst := some 55, op := SOp.fld 4 (Operand.tmp 13), g := none },
                                            { dst := some 56, op := SOp.load1 (Operand.tmp 55), g := none },
                                            { dst := some 57, op := SOp.call 31 [Operand.tmp 56], g := none },
                                            { dst := some 58, op := SOp.fld 1 (Operand.tmp 7), g := none },
                                            { dst := some 59, op := SOp.load1 (Operand.tmp 58), g := none },
                                            { dst := some 60, op := SOp.bin BinOp.add (Operand.tmp 57) (Operand.tmp 59),
                                              g := none },
                                            { dst := some 61, op := SOp.fld 2 (Operand.tmp 13), g := none },
                                            { dst := some 62, op := SOp.load1 (Operand.tmp 61), g := none },
                                            { dst := some 63, op := SOp.bin BinOp.gtr (Operand.tmp 60) (Operand.tmp 62),
                                              g := none },
                                            { dst := some 54, op := SOp.mov (Operand.tmp 63), g := none }]).seq
                                      (SC.cond (Operand.tmp 54)
                                        ((SC.ops false
                                              [{ dst := some 8, op := SOp.mov (Operand.const (Value.slice none 0 0)),
                                                  g := none },
                                                { dst := some 9,
                                                  op := SOp.mov (Operand.const (Value.int IntKind.i64 (Int.ofNat 12))),
                                                  g := none }]).seq
                                          SC.ret)
                                        SC.skip)))))))))).seq
                  ((SC.ops false
                        [{ dst := some 64, op := SOp.mov (Operand.tmp 0), g := none },
                          { dst := some 65, op := SOp.call 39 [Operand.tmp 64], g := none },
                          { dst := some 14, op := SOp.mov (Operand.tmp 65), g := none }]).seq
                    ((SC.opsD 12
                          [{ dst := some 66, op := SOp.mov (Operand.tmp 14), g := none },
                            { dst := some 67, op := SOp.mov (Operand.tmp 10), g := none },
                            { dst := some 68, op := SOp.mov (Operand.tmp 14), g := none },
                            { dst := some 69, op := SOp.mov (Operand.tmp 10), g := none },
                            { dst := some 70, op := SOp.idx 5 (Operand.tmp 68) (Operand.tmp 69), g := none },
                            { dst := some 71, op := SOp.fld 4 (Operand.tmp 70), g := none },
                            { dst := some 72, op := SOp.load1 (Operand.tmp 71), g := none },
                            { dst := some 73, op := SOp.mov (Operand.tmp 2), g := none },
                            { dst := some 74, op := SOp.loadN 2 (Operand.tmp 7), g := none },
                            { dst := some 75, op := SOp.call 43 [Operand.tmp 72, Operand.tmp 73, Operand.tmp 74],
                              g := none },
                            { dst := some 76, op := SOp.idx 5 (Operand.tmp 66) (Operand.tmp 67), g := none },
                            { dst := some 77, op := SOp.fld 4 (Operand.tmp 76), g := none },
                            { dst := none, op := SOp.store 1 (Operand.tmp 77) (Operand.tmp 75), g := none }]).seq
                      ((SC.ops false
                            [{ dst := some 78, op := SOp.mov (Operand.tmp 14), g := none },
                              { dst := some 8, op := SOp.mov (Operand.tmp 78), g := none },
                              { dst := some 9, op := SOp.mov (Operand.const (Value.int IntKind.i64 (Int.ofNat 0))),
                                g := none }]).seq
                        SC.ret)))))))),
    res := [SR.tmp 8, SR.tmp 9] }
theorem F21_ok : slimFn Try.prog hv Try.f21 = some F21 := by kernel_rfl
def F22 : Fn :=

  { N := 87,
    code :=
      (SC.ops false
            [{ dst := some 7, op := SOp.box 41 (Operand.tmp 3), g := none },
              { dst := some 8, op := SOp.mov (Operand.const (Value.slice none 0 0)), g := none },
              { dst := some 9, op := SOp.mov (Operand.const (Value.int IntKind.i64 (Int.ofNat 0))), g := none }]).seq
        (((SC.ops false
                  [{ dst := some 17, op := SOp.mov (Operand.tmp 0), g := none },
                    { dst := some 18, op := SOp.call 18 [Operand.tmp 17], g := none },
                    { dst := some 19,
                      op := SOp.bin BinOp.neq (Operand.tmp 18) (Operand.const (Value.int IntKind.i64 (Int.ofNat 0))),
                      g := none }]).seq
              (SC.cond (Operand.tmp 19)
                ((SC.ops false
                      [{ dst := some 8, op := SOp.mov (Operand.const (Value.slice none 0 0)), g := none },
                        { dst := some 9, op := SOp.mov (Operand.const (Value.int IntKind.i64 (Int.ofNat 1))),
                          g := none }]).seq
                  SC.ret)
                SC.skip)).seq
          ((SC.ops false
                [{ dst := some 20, op := SOp.mov (Operand.tmp 0), g := none },
                  { dst := some 21, op := SOp.mov (Operand.tmp 1), g := none },
                  { dst := some 22, op := SOp.call 41 [Operand.tmp 20, Operand.tmp 21], g := none },
                  { dst := some 10, op := SOp.mov (Operand.tmp 22), g := none }]).seq
            (((SC.ops false
                      [{ dst := some 23, op := SOp.mov (Operand.tmp 10), g := none },
                        { dst := some 24,
                          op :=
                            SOp.bin BinOp.lss (Operand.tmp 23) (Operand.const (Value.int IntKind.i64 (Int.ofNat 0))),
                          g := none }]).seq
                  (SC.cond (Operand.tmp 24)
                    ((SC.ops false
                          [{ dst := some 8, op := SOp.mov (Operand.const (Value.slice none 0 0)), g := none },
                            { dst := some 9, op := SOp.mov (Operand.const (Value.int IntKind.i64 (Int.ofNat 7))),
                              g := none }]).seq
                      SC.ret)
                    SC.skip)).seq
              ((SC.ops false
                    [{ dst := some 25, op := SOp.mov (Operand.tmp 0), g := none },
                      { dst := some 26, op := SOp.mov (Operand.tmp 10), g := none },
                      { dst := some 27, op := SOp.idx 5 (Operand.tmp 25) (Operand.tmp 26), g := none },
                      { dst := some 28, op := SOp.loadN 5 (Operand.tmp 27), g := none },
                      { dst := some 11,
                        op :=
                          SOp.alloc 27
                            [Value.int IntKind.i64 (Int.ofNat 0), Value.int IntKind.i64 (Int.ofNat 0),
                              Value.int IntKind.i64 (Int.ofNat 0), Value.int IntKind.i64 (Int.ofNat 0),
                              Value.slice none 0 0],
                        g := none },
                      { dst := none, op := SOp.store 5 (Operand.tmp 11) (Operand.tmp 28), g := none }]).seq
                (((SC.ops false
                          [{ dst := some 29, op := SOp.mov (Operand.tmp 2), g := none },
                            { dst := some 30,
                              op :=
                                SOp.bin BinOp.lss (Operand.tmp 29)
                                  (Operand.const (Value.int IntKind.i64 (Int.ofNat 0))),
                              g := none },
                            { dst := some 31, op := SOp.mov (Operand.tmp 30), g := none },
                            { dst := some 32, op := SOp.mov (Operand.tmp 2), g := some (31, false) },
                            { dst := some 33, op := SOp.fld 4 (Operand.tmp 11), g := some (31, false) },
                            { dst := some 34, op := SOp.load1 (Operand.tmp 33), g := some (31, false) },
                            { dst := some 35, op := SOp.len (Operand.tmp 34), g := some (31, false) },
                            { dst := some 36, op := SOp.bin BinOp.gtr (Operand.tmp 32) (Operand.tmp 35),
                              g := some (31, false) },
                            { dst := some 37, op := SOp.pick 31 (Operand.const (Value.bool true)) (Operand.tmp 36),
                              g := none },
                            { dst := some 38, op := SOp.mov (Operand.tmp 37), g := none },
                            { dst := some 39, op := SOp.loadN 2 (Operand.tmp 7), g := some (38, false) },
                            { dst := some 40, op := SOp.call 44 [Operand.tmp 39], g := some (38, false) },
                            { dst := some 41, op := SOp.un UnOp.not (Operand.tmp 40), g := some (38, false) },
                            { dst := some 42, op := SOp.pick 38 (Operand.const (Value.bool true)) (Operand.tmp 41),
                              g := none }]).seq
                      (SC.cond (Operand.tmp 42)
                        ((SC.ops false
                              [{ dst := some 8, op := SOp.mov (Operand.const (Value.slice none 0 0)), g := none },
                                { dst := some 9, op := SOp.mov (Operand.const (Value.int IntKind.i64 (Int.ofNat 2))),
                                  g := none }]).seq
                          SC.ret)
                        SC.skip)).seq
                  (((SC.ops false
                            [{ dst := some 44, op := SOp.mov (Operand.tmp 0), g := none },
                              { dst := some 45, op := SOp.fld 0 (Operand.tmp 7), g := none },
                              { dst := some 46, op := SOp.load1 (Operand.tmp 45), g := none },
                              { dst := some 47, op := SOp.call 16 [Operand.tmp 44, Operand.tmp 46], g := none },
                              { dst := some 43, op := SOp.mov (Operand.tmp 47), g := none },
                              { dst := some 48, op := SOp.ext (Operand.tmp 43) 0, g := none },
                              { dst := some 49, op := SOp.ext (Operand.tmp 43) 1, g := none },
                              { dst := some 50, op := SOp.ext (Operand.tmp 43) 2, g := none },
                              { dst := some 12, op := SOp.mov (Operand.tmp 48), g := none },
                              { dst := some 13, op := SOp.mov (Operand.tmp 49), g := none },
                              { dst := some 14, op := SOp.mov (Operand.tmp 50), g := none }]).seq
                        ((SC.ops false [{ dst := some 51, op := SOp.mov (Operand.tmp 14), g := none }]).seq
                          (SC.cond (Operand.tmp 51)
                            ((SC.ops false
                                  [{ dst := some 8, op := SOp.mov (Operand.const (Value.slice none 0 0)), g := none },
                                    { dst := some 9,
                                      op := SOp.mov (Operand.const (Value.int IntKind.i64 (Int.ofNat 6))),
                                      g := none }]).seq
                              SC.ret)
                            SC.skip))).seq
                    (((SC.ops false
                              [{ dst := some 52, op := SOp.fld 4 (Operand.tmp 11), g := none },
                                { dst := some 53, op := SOp.load1 (Operand.tmp 52), g := none },
                                { dst := some 54, op := SOp.len (Operand.tmp 53), g := none },
                                { dst := some 55,
                                  op :=
                                    SOp.bin BinOp.eql (Operand.tmp 54)
                                      (Operand.const (Value.int IntKind.i64 (Int.ofNat 32))),
                                  g := none }]).seq
                          (SC.cond (Operand.tmp 55)
                            ((SC.ops false
                                  [{ dst := some 8, op := SOp.mov (Operand.const (Value.slice none 0 0)), g := none },
                                    { dst := some 9,
                                      op := SOp.mov (Operand.const (Value.int IntKind.i64 (Int.ofNat 8))),
                                      g := none }]).seq
                              SC.ret)
                            SC.skip)).seq
                      (((SC.ops true
                                [{ dst := some 56, op := SOp.loadN 5 (Operand.tmp 11), g := none },
                                  { dst := some 57, op := SOp.call 32 [Operand.tmp 56], g := none },
                                  { dst := some 58, op := SOp.fld 1 (Operand.tmp 7), g := none },
                                  { dst := some 59, op := SOp.load1 (Operand.tmp 58), g := none },
                                  { dst := some 60, op := SOp.bin BinOp.add (Operand.tmp 57) (Operand.tmp 59),
                                    g := none },
                                  { dst := some 61, op := SOp.fld 2 (Operand.tmp 11), g := none },
                                  { dst := some 62, op := SOp.load1 (Operand.tmp 61), g := none },
                                  { dst := some 63, op := SOp.bin BinOp.gtr (Operand.tmp 60) (Operand.tmp 62),
                                    g := none }]).seq
                            (SC.cond (Operand.tmp 63)
                              ((SC.ops false
                                    [{ dst := some 8, op := SOp.mov (Operand.const (Value.slice none 0 0)), g := none },
                                      { dst := some 9,
                                        op := SOp.mov (Operand.const (Value.int IntKind.i64 (Int.ofNat 12))),
                                        g := none }]).seq
                                SC.ret)
                              SC.skip)).seq
                        ((SC.ops false
                              [{ dst := some 64, op := SOp.mov (Operand.tmp 0), g := none },
                                { dst := some 65, op := SOp.call 13 [Operand.tmp 64], g := none },
                                { dst := some 15, op := SOp.mov (Operand.tmp 65), g := none }]).seq
                          ((SC.ops false
                                [{ dst := some 16, op := SOp.mov (Operand.const (Value.slice none 0 0)),
                                    g := none }]).seq
                            ((SC.ops false
                                  [{ dst := some 66, op := SOp.mov (Operand.tmp 16), g := none },
                                    { dst := some 67, op := SOp.fld 4 (Operand.tmp 11), g := none },
                                    { dst := some 68, op := SOp.load1 (Operand.tmp 67), g := none },
                                    { dst := some 69, op := SOp.mov (Operand.tmp 2), g := none },
                                    { dst := some 70, op := SOp.slice 2 (Operand.tmp 68) none (some (Operand.tmp 69)),
                                      g := none },
                                    { dst := some 71,
                                      op :=
                                        SOp.app 41 2 16
                                          [Value.int IntKind.i64 (Int.ofNat 0), Value.int IntKind.i64 (Int.ofNat 0)]
                                          (Operand.tmp 66) (Operand.tmp 70),
                                      g := none },
                                    { dst := some 16, op := SOp.mov (Operand.tmp 71), g := none }]).seq
                              ((SC.ops false
                                    [{ dst := some 72, op := SOp.mov (Operand.tmp 16), g := none },
                                      { dst := some 73, op := SOp.loadN 2 (Operand.tmp 7), g := none },
                                      { dst := some 74,
                                        op :=
                                          SOp.buildS 41 2 1
                                            [Value.int IntKind.i64 (Int.ofNat 0), Value.int IntKind.i64 (Int.ofNat 0)]
                                            [(0, Operand.tmp 73)],
                                        g := none },
                                      { dst := some 75,
                                        op :=
                                          SOp.app 41 2 16
                                            [Value.int IntKind.i64 (Int.ofNat 0), Value.int IntKind.i64 (Int.ofNat 0)]
                                            (Operand.tmp 72) (Operand.tmp 74),
                                        g := none },
                                      { dst := some 16, op := SOp.mov (Operand.tmp 75), g := none }]).seq
                                ((SC.ops false
                                      [{ dst := some 76, op := SOp.mov (Operand.tmp 15), g := none },
                                        { dst := some 77, op := SOp.mov (Operand.tmp 10), g := none },
                                        { dst := some 78, op := SOp.mov (Operand.tmp 16), g := none },
                                        { dst := some 79, op := SOp.fld 4 (Operand.tmp 11), g := none },
                                        { dst := some 80, op := SOp.load1 (Operand.tmp 79), g := none },
                                        { dst := some 81, op := SOp.mov (Operand.tmp 2), g := none },
                                        { dst := some 82,
                                          op := SOp.slice 2 (Operand.tmp 80) (some (Operand.tmp 81)) none, g := none },
                                        { dst := some 83,
                                          op :=
                                            SOp.app 41 2 16
                                              [Value.int IntKind.i64 (Int.ofNat 0), Value.int IntKind.i64 (Int.ofNat 0)]
                                              (Operand.tmp 78) (Operand.tmp 82),
                                          g := none },
                                        { dst := some 84, op := SOp.idx 5 (Operand.tmp 76) (Operand.tmp 77),
                                          g := none },
                                        { dst := some 85, op := SOp.fld 4 (Operand.tmp 84), g := none },
                                        { dst := none, op := SOp.store 1 (Operand.tmp 85) (Operand.tmp 83),
                                          g := none }]).seq
                                  ((SC.ops false
                                        [{ dst := some 86, op := SOp.mov (Operand.tmp 15), g := none },
                                          { dst := some 8, op := SOp.mov (Operand.tmp 86), g := none },
                                          { dst := some 9,
                                            op := SOp.mov (Operand.const (Value.int IntKind.i64 (Int.ofNat 0))),
                                            g := none }]).seq
                                    SC.ret)))))))))))))),
    res := [SR.tmp 8, SR.tmp 9] }
theorem F22_ok : slimFn Try.prog hv Try.f22 = some F22 := by kernel_rfl
def F23 : Fn :=

  { N := 45,
    code :=
      (SC.ops false
            [{ dst := some 4, op := SOp.mov (Operand.const (Value.slice none 0 0)), g := none },
              { dst := some 5,
                op := SOp.alloc 41 [Value.int IntKind.i64 (Int.ofNat 0), Value.int IntKind.i64 (Int.ofNat 0)],
                g := none },
              { dst := some 6, op := SOp.mov (Operand.const (Value.int IntKind.i64 (Int.ofNat 0))), g := none }]).seq
        (((SC.ops false
                  [{ dst := some 10, op := SOp.mov (Operand.tmp 0), g := none },
                    { dst := some 11, op := SOp.call 17 [Operand.tmp 10], g := none },
                    { dst := some 12,
                      op := SOp.bin BinOp.neq (Operand.tmp 11) (Operand.const (Value.int IntKind.i64 (Int.ofNat 0))),
                      g := none }]).seq
              (SC.cond (Operand.tmp 12)
                ((SC.ops false
                      [{ dst := some 13,
                          op := SOp.build [Value.int IntKind.i64 (Int.ofNat 0), Value.int IntKind.i64 (Int.ofNat 0)] [],
                          g := none },
                        { dst := some 4, op := SOp.mov (Operand.const (Value.slice none 0 0)), g := none },
                        { dst := none, op := SOp.store 2 (Operand.tmp 5) (Operand.tmp 13), g := none },
                        { dst := some 6, op := SOp.mov (Operand.const (Value.int IntKind.i64 (Int.ofNat 1))),
                          g := none }]).seq
                  SC.ret)
                SC.skip)).seq
          ((SC.ops false
                [{ dst := some 15, op := SOp.mov (Operand.tmp 0), g := none },
                  { dst := some 16, op := SOp.mov (Operand.tmp 1), g := none },
                  { dst := some 17, op := SOp.call 33 [Operand.tmp 15, Operand.tmp 16], g := none },
                  { dst := some 14, op := SOp.mov (Operand.tmp 17), g := none },
                  { dst := some 18, op := SOp.ext (Operand.tmp 14) 0, g := none },
                  { dst := some 19, op := SOp.ext (Operand.tmp 14) 1, g := none },
                  { dst := some 7, op := SOp.mov (Operand.tmp 18), g := none },
                  { dst := some 8, op := SOp.mov (Operand.tmp 19), g := none }]).seq
            (((SC.ops false
                      [{ dst := some 20, op := SOp.mov (Operand.tmp 7), g := none },
                        { dst := some 21,
                          op :=
                            SOp.bin BinOp.lss (Operand.tmp 20) (Operand.const (Value.int IntKind.i64 (Int.ofNat 0))),
                          g := none }]).seq
                  (SC.cond (Operand.tmp 21)
                    ((SC.ops false
                          [{ dst := some 22,
                              op :=
                                SOp.build [Value.int IntKind.i64 (Int.ofNat 0), Value.int IntKind.i64 (Int.ofNat 0)] [],
                              g := none },
                            { dst := some 4, op := SOp.mov (Operand.const (Value.slice none 0 0)), g := none },
                            { dst := none, op := SOp.store 2 (Operand.tmp 5) (Operand.tmp 22), g := none },
                            { dst := some 6, op := SOp.mov (Operand.const (Value.int IntKind.i64 (Int.ofNat 7))),
                              g := none }]).seq
                      SC.ret)
                    SC.skip)).seq
              ((SC.ops false
                    [{ dst := some 23, op := SOp.mov (Operand.tmp 0), g := none },
                      { dst := some 24, op := SOp.call 39 [Operand.tmp 23], g := none },
                      { dst := some 9, op := SOp.mov (Operand.tmp 24), g := none }]).seq
                ((SC.ops false
                      [{ dst := some 25, op := SOp.mov (Operand.tmp 9), g := none },
                        { dst := some 26, op := SOp.mov (Operand.tmp 7), g := none },
                        { dst := some 27, op := SOp.mov (Operand.tmp 9), g := none },
                        { dst := some 28, op := SOp.mov (Operand.tmp 7), g := none },
                        { dst := some 29, op := SOp.idx 5 (Operand.tmp 27) (Operand.tmp 28), g := none },
                        { dst := some 30, op := SOp.fld 4 (Operand.tmp 29), g := none },
                        { dst := some 31, op := SOp.load1 (Operand.tmp 30), g := none },
                        { dst := some 32, op := SOp.mov (Operand.tmp 8), g := none },
                        { dst := some 33, op := SOp.call 45 [Operand.tmp 31, Operand.tmp 32], g := none },
                        { dst := some 34, op := SOp.idx 5 (Operand.tmp 25) (Operand.tmp 26), g := none },
                        { dst := some 35, op := SOp.fld 4 (Operand.tmp 34), g := none },
                        { dst := none, op := SOp.store 1 (Operand.tmp 35) (Operand.tmp 33), g := none }]).seq
                  ((SC.opsD 10
                        [{ dst := some 36, op := SOp.mov (Operand.tmp 9), g := none },
                          { dst := some 37, op := SOp.mov (Operand.tmp 0), g := none },
                          { dst := some 38, op := SOp.mov (Operand.tmp 7), g := none },
                          { dst := some 39, op := SOp.idx 5 (Operand.tmp 37) (Operand.tmp 38), g := none },
                          { dst := some 40, op := SOp.fld 4 (Operand.tmp 39), g := none },
                          { dst := some 41, op := SOp.load1 (Operand.tmp 40), g := none },
                          { dst := some 42, op := SOp.mov (Operand.tmp 8), g := none },
                          { dst := some 43, op := SOp.idx 2 (Operand.tmp 41) (Operand.tmp 42), g := none },
                          { dst := some 44, op := SOp.loadN 2 (Operand.tmp 43), g := none },
                          { dst := some 4, op := SOp.mov (Operand.tmp 36), g := none },
                          { dst := none, op := SOp.store 2 (Operand.tmp 5) (Operand.tmp 44), g := none },
                          { dst := some 6, op := SOp.mov (Operand.const (Value.int IntKind.i64 (Int.ofNat 0))),
                            g := none }]).seq
                    SC.ret)))))),
    res := [SR.tmp 4, SR.cell (some 2) 5, SR.tmp 6] }
theorem F23_ok : slimFn Try.prog hv Try.f23 = some F23 := by kernel_rfl
def F24 : Fn :=

  { N := 60,
    code :=
      (SC.ops false
            [{ dst := some 4, op := SOp.mov (Operand.const (Value.slice none 0 0)), g := none },
              { dst := some 5,
                op := SOp.alloc 41 [Value.int IntKind.i64 (Int.ofNat 0), Value.int IntKind.i64 (Int.ofNat 0)],
                g := none },
              { dst := some 6, op := SOp.mov (Operand.const (Value.int IntKind.i64 (Int.ofNat 0))), g := none }]).seq
        (((SC.ops false
                  [{ dst := some 13, op := SOp.mov (Operand.tmp 0), g := none },
                    { dst := some 14, op := SOp.call 18 [Operand.tmp 13], g := none },
                    { dst := some 15,
                      op := SOp.bin BinOp.neq (Operand.tmp 14) (Operand.const (Value.int IntKind.i64 (Int.ofNat 0))),
                      g := none }]).seq
              (SC.cond (Operand.tmp 15)
                ((SC.ops false
                      [{ dst := some 16,
                          op := SOp.build [Value.int IntKind.i64 (Int.ofNat 0), Value.int IntKind.i64 (Int.ofNat 0)] [],
                          g := none },
                        { dst := some 4, op := SOp.mov (Operand.const (Value.slice none 0 0)), g := none },
                        { dst := none, op := SOp.store 2 (Operand.tmp 5) (Operand.tmp 16), g := none },
                        { dst := some 6, op := SOp.mov (Operand.const (Value.int IntKind.i64 (Int.ofNat 1))),
                          g := none }]).seq
                  SC.ret)
                SC.skip)).seq
          ((SC.ops false
                [{ dst := some 18, op := SOp.mov (Operand.tmp 0), g := none },
                  { dst := some 19, op := SOp.mov (Operand.tmp 1), g := none },
                  { dst := some 20, op := SOp.call 16 [Operand.tmp 18, Operand.tmp 19], g := none },
                  { dst := some 17, op := SOp.mov (Operand.tmp 20), g := none },
                  { dst := some 21, op := SOp.ext (Operand.tmp 17) 0, g := none },
                  { dst := some 22, op := SOp.ext (Operand.tmp 17) 1, g := none },
                  { dst := some 23, op := SOp.ext (Operand.tmp 17) 2, g := none },
                  { dst := some 7, op := SOp.mov (Operand.tmp 21), g := none },
                  { dst := some 8, op := SOp.mov (Operand.tmp 22), g := none },
                  { dst := some 9, op := SOp.mov (Operand.tmp 23), g := none }]).seq
            (((SC.ops false
                      [{ dst := some 24, op := SOp.mov (Operand.tmp 9), g := none },
                        { dst := some 25, op := SOp.un UnOp.not (Operand.tmp 24), g := none }]).seq
                  (SC.cond (Operand.tmp 25)
                    ((SC.ops false
                          [{ dst := some 26,
                              op :=
                                SOp.build [Value.int IntKind.i64 (Int.ofNat 0), Value.int IntKind.i64 (Int.ofNat 0)] [],
                              g := none },
                            { dst := some 4, op := SOp.mov (Operand.const (Value.slice none 0 0)), g := none },
                            { dst := none, op := SOp.store 2 (Operand.tmp 5) (Operand.tmp 26), g := none },
                            { dst := some 6, op := SOp.mov (Operand.const (Value.int IntKind.i64 (Int.ofNat 7))),
                              g := none }]).seq
                      SC.ret)
                    SC.skip)).seq
              ((SC.ops false
                    [{ dst := some 27, op := SOp.mov (Operand.tmp 0), g := none },
                      { dst := some 28, op := SOp.call 13 [Operand.tmp 27], g := none },
                      { dst := some 10, op := SOp.mov (Operand.tmp 28), g := none }]).seq
                ((SC.ops false
                      [{ dst := some 29, op := SOp.mov (Operand.tmp 0), g := none },
                        { dst := some 30, op := SOp.mov (Operand.tmp 0), g := none },
                        { dst := some 31, op := SOp.mov (Operand.tmp 7), g := none },
                        { dst := some 32, op := SOp.call 41 [Operand.tmp 30, Operand.tmp 31], g := none },
                        { dst := some 33, op := SOp.idx 5 (Operand.tmp 29) (Operand.tmp 32), g := none },
                        { dst := some 34, op := SOp.loadN 5 (Operand.tmp 33), g := none },
                        { dst := some 11,
                          op :=
                            SOp.alloc 27
                              [Value.int IntKind.i64 (Int.ofNat 0), Value.int IntKind.i64 (Int.ofNat 0),
                                Value.int IntKind.i64 (Int.ofNat 0), Value.int IntKind.i64 (Int.ofNat 0),
                                Value.slice none 0 0],
                          g := none },
                        { dst := none, op := SOp.store 5 (Operand.tmp 11) (Operand.tmp 34), g := none }]).seq
                  ((SC.ops false
                        [{ dst := some 12, op := SOp.mov (Operand.const (Value.slice none 0 0)), g := none }]).seq
                    ((SC.ops false
                          [{ dst := some 35, op := SOp.mov (Operand.tmp 12), g := none },
                            { dst := some 36, op := SOp.fld 4 (Operand.tmp 11), g := none },
                            { dst := some 37, op := SOp.load1 (Operand.tmp 36), g := none },
                            { dst := some 38, op := SOp.mov (Operand.tmp 8), g := none },
                            { dst := some 39, op := SOp.slice 2 (Operand.tmp 37) none (some (Operand.tmp 38)),
                              g := none },
                            { dst := some 40,
                              op :=
                                SOp.app 41 2 16
                                  [Value.int IntKind.i64 (Int.ofNat 0), Value.int IntKind.i64 (Int.ofNat 0)]
                                  (Operand.tmp 35) (Operand.tmp 39),
                              g := none },
                            { dst := some 12, op := SOp.mov (Operand.tmp 40), g := none }]).seq
                      ((SC.opsA [0, 1, 2, 4, 7]
                            [{ dst := some 41, op := SOp.mov (Operand.tmp 10), g := none },
                              { dst := some 42, op := SOp.mov (Operand.tmp 0), g := none },
                              { dst := some 43, op := SOp.mov (Operand.tmp 7), g := none },
                              { dst := some 44, op := SOp.call 41 [Operand.tmp 42, Operand.tmp 43], g := none },
                              { dst := some 45, op := SOp.mov (Operand.tmp 12), g := none },
                              { dst := some 46, op := SOp.fld 4 (Operand.tmp 11), g := none },
                              { dst := some 47, op := SOp.load1 (Operand.tmp 46), g := none },
                              { dst := some 48, op := SOp.mov (Operand.tmp 8), g := none },
                              { dst := some 49,
                                op :=
                                  SOp.bin BinOp.add (Operand.tmp 48)
                                    (Operand.const (Value.int IntKind.i64 (Int.ofNat 1))),
                                g := none },
                              { dst := some 50, op := SOp.slice 2 (Operand.tmp 47) (some (Operand.tmp 49)) none,
                                g := none },
                              { dst := some 51,
                                op :=
                                  SOp.app 41 2 16
                                    [Value.int IntKind.i64 (Int.ofNat 0), Value.int IntKind.i64 (Int.ofNat 0)]
                                    (Operand.tmp 45) (Operand.tmp 50),
                                g := none },
                              { dst := some 52, op := SOp.idx 5 (Operand.tmp 41) (Operand.tmp 44), g := none },
                              { dst := some 53, op := SOp.fld 4 (Operand.tmp 52), g := none },
                              { dst := none, op := SOp.store 1 (Operand.tmp 53) (Operand.tmp 51), g := none }]
                            [[], [], [], [1, 2], [], [], [5], [], [7], [6, 8], [4, 9, 3],
                              [0, 3, 0, 1, 2, 3, 4, 5, 6, 7, 8, 9, 10], [11, 0, 1, 2, 3, 4, 5, 6, 7, 8, 9, 10],
                              [12, 10, 10, 0, 1, 2, 3, 4, 5, 6, 7, 8, 9, 10]]).seq
                        ((SC.opsD 7
                              [{ dst := some 54, op := SOp.mov (Operand.tmp 10), g := none },
                                { dst := some 55, op := SOp.fld 4 (Operand.tmp 11), g := none },
                                { dst := some 56, op := SOp.load1 (Operand.tmp 55), g := none },
                                { dst := some 57, op := SOp.mov (Operand.tmp 8), g := none },
                                { dst := some 58, op := SOp.idx 2 (Operand.tmp 56) (Operand.tmp 57), g := none },
                                { dst := some 59, op := SOp.loadN 2 (Operand.tmp 58), g := none },
                                { dst := some 4, op := SOp.mov (Operand.tmp 54), g := none },
                                { dst := none, op := SOp.store 2 (Operand.tmp 5) (Operand.tmp 59), g := none },
                                { dst := some 6, op := SOp.mov (Operand.const (Value.int IntKind.i64 (Int.ofNat 0))),
                                  g := none }]).seq
                          SC.ret))))))))),
    res := [SR.tmp 4, SR.cell (some 2) 5, SR.tmp 6] }
theorem F24_ok : slimFn Try.prog hv Try.f24 = some F24 := by kernel_rfl
def F25 : Fn :=

  { N := 110,
    code :=
      (SC.ops false [{ dst := some 4, op := SOp.mov (Operand.const (Value.bool false)), g := none }]).seq
        (((SC.ops false
                  [{ dst := some 7, op := SOp.mov (Operand.tmp 0), g := none },
                    { dst := some 8, op := SOp.len (Operand.tmp 7), g := none },
                    { dst := some 9, op := SOp.mov (Operand.tmp 1), g := none },
                    { dst := some 10, op := SOp.len (Operand.tmp 9), g := none },
                    { dst := some 11, op := SOp.bin BinOp.neq (Operand.tmp 8) (Operand.tmp 10), g := none }]).seq
              (SC.cond (Operand.tmp 11)
                ((SC.ops false [{ dst := some 4, op := SOp.mov (Operand.const (Value.bool false)), g := none }]).seq
                  SC.ret)
                SC.skip)).seq
          (((SC.ops false
                    [{ dst := some 12, op := SOp.mov (Operand.tmp 0), g := none },
                      { dst := some 13, op := SOp.len (Operand.tmp 12), g := none },
                      { dst := some 14, op := SOp.mov (Operand.const (Value.int IntKind.i64 (Int.ofNat 0))),
                        g := none }]).seq
                (SC.block 0
                  ((SC.ops false
                          [{ dst := some 15, op := SOp.bin BinOp.lss (Operand.tmp 14) (Operand.tmp 13),
                              g := none }]).seq
                      ((SC.cond (Operand.tmp 15) SC.skip (SC.exit 0)).seq
                        ((SC.block 1
                              ((SC.ops false
                                    [{ dst := some 16, op := SOp.mov (Operand.tmp 14), g := none },
                                      { dst := some 5, op := SOp.mov (Operand.tmp 16), g := none }]).seq
                                (((SC.ops true
                                          [{ dst := some 17, op := SOp.mov (Operand.tmp 0), g := none },
                                            { dst := some 18, op := SOp.mov (Operand.tmp 5), g := none },
                                            { dst := some 19, op := SOp.idx 5 (Operand.tmp 17) (Operand.tmp 18),
                                              g := none },
                                            { dst := some 20, op := SOp.fld 0 (Operand.tmp 19), g := none },
                                            { dst := some 21, op := SOp.load1 (Operand.tmp 20), g := none },
                                            { dst := some 22, op := SOp.mov (Operand.tmp 1), g := none },
                                            { dst := some 23, op := SOp.mov (Operand.tmp 5), g := none },
                                            { dst := some 24, op := SOp.idx 5 (Operand.tmp 22) (Operand.tmp 23),
                                              g := none },
                                            { dst := some 25, op := SOp.fld 0 (Operand.tmp 24), g := none },
                                            { dst := some 26, op := SOp.load1 (Operand.tmp 25), g := none },
                                            { dst := some 27, op := SOp.bin BinOp.neq (Operand.tmp 21) (Operand.tmp 26),
                                              g := none },
                                            { dst := some 28, op := SOp.mov (Operand.tmp 27), g := none },
                                            { dst := some 29, op := SOp.mov (Operand.tmp 0), g := some (28, false) },
                                            { dst := some 30, op := SOp.mov (Operand.tmp 5), g := some (28, false) },
                                            { dst := some 31, op := SOp.idx 5 (Operand.tmp 29) (Operand.tmp 30),
                                              g := some (28, false) },
                                            { dst := some 32, op := SOp.fld 1 (Operand.tmp 31), g := some (28, false) },
                                            { dst := some 33, op := SOp.load1 (Operand.tmp 32), g := some (28, false) },
                                            { dst := some 34, op := SOp.mov (Operand.tmp 1), g := some (28, false) },
                                            { dst := some 35, op := SOp.mov (Operand.tmp 5), g := some (28, false) },
                                            { dst := some 36, op := SOp.idx 5 (Operand.tmp 34) (Operand.tmp 35),
                                              g := some (28, false) },
                                            { dst := some 37, op := SOp.fld 1 (Operand.tmp 36), g := some (28, false) },
                                            { dst := some 38, op := SOp.load1 (Operand.tmp 37), g := some (28, false) },
                                            { dst := some 39, op := SOp.bin BinOp.neq (Operand.tmp 33) (Operand.tmp 38),
                                              g := some (28, false) },
                                            { dst := some 40,
                                              op := SOp.pick 28 (Operand.const (Value.bool true)) (Operand.tmp 39),
                                              g := none },
                                            { dst := some 41, op := SOp.mov (Operand.tmp 40), g := none },
                                            { dst := some 42, op := SOp.mov (Operand.tmp 0), g := some (41, false) },
                                            { dst := some 43, op := SOp.mov (Operand.tmp 5), g := some (41, false) },
                                            { dst := some 44, op := SOp.idx 5 (Operand.tmp 42) (Operand.tmp 43),
                                              g := some (41, false) },
                                            { dst := some 45, op := SOp.fld 2 (Operand.tmp 44), g := some (41, false) },
                                            { dst := some 46, op := SOp.load1 (Operand.tmp 45), g := some (41, false) },
                                            { dst := some 47, op := SOp.mov (Operand.tmp 1), g := some (41, false) },
                                            { dst := some 48, op := SOp.mov (Operand.tmp 5), g := some (41, false) },
                                            { dst := some 49, op := SOp.idx 5 (Operand.tmp 47) (Operand.tmp 48),
                                              g := some (41, false) },
                                            { dst := some 50, op := SOp.fld 2 (Operand.tmp 49), g := some (41, false) },
                                            { dst := some 51, op := SOp.load1 (Operand.tmp 50), g := some (41, false) },
                                            { dst := some 52, op := SOp.bin BinOp.neq (Operand.tmp 46) (Operand.tmp 51),
                                              g := some (41, false) },
                                            { dst := some 53,
                                              op := SOp.pick 41 (Operand.const (Value.bool true)) (Operand.tmp 52),
                                              g := none },
                                            { dst := some 54, op := SOp.mov (Operand.tmp 53), g := none },
                                            { dst := some 55, op := SOp.mov (Operand.tmp 0), g := some (54, false) },
                                            { dst := some 56, op := SOp.mov (Operand.tmp 5), g := some (54, false) },
                                            { dst := some 57, op := SOp.idx 5 (Operand.tmp 55) (Operand.tmp 56),
                                              g := some (54, false) },
                                            { dst := some 58, op := SOp.fld 3 (Operand.tmp 57), g := some (54, false) },
                                            { dst := some 59, op := SOp.load1 (Operand.tmp 58), g := some (54, false) },
                                            { dst := some 60, op := SOp.mov (Operand.tmp 1), g := some (54, false) },
                                            { dst := some 61, op := SOp.mov (Operand.tmp 5), g := some (54, false) },
                                            { dst := some 62, op := SOp.idx 5 (Operand.tmp 60) (Operand.tmp 61),
                                              g := some (54, false) },
                                            { dst := some 63, op := SOp.fld 3 (Operand.tmp 62), g := some (54, false) },
                                            { dst := some 64, op := SOp.load1 (Operand.tmp 63), g := some (54, false) },
                                            { dst := some 65, op := SOp.bin BinOp.neq (Operand.tmp 59) (Operand.tmp 64),
                                              g := some (54, false) },
                                            { dst := some 66,
                                              op := SOp.pick 54 (Operand.const (Value.bool true)) (Operand.tmp 65),
                                              g := none },
                                            { dst := some 67, op := SOp.mov (Operand.tmp 66), g := none },
                                            { dst := some 68, op := SOp.mov (Operand.tmp 0), g := some (67, false) },
                                            { dst := some 69, op := SOp.mov (Operand.tmp 5), g := some (67, false) },
                                            { dst := some 70, op := SOp.idx 5 (Operand.tmp 68) (Operand.tmp 69),
                                              g := some (67, false) },
                                            { dst := some 71, op := SOp.fld 4 (Operand.tmp 70), g := some (67, false) },
                                            { dst := some 72, op := SOp.load1 (Operand.tmp 71), g := some (67, false) },
                                            { dst := some 73, op := SOp.len (Operand.tmp 72), g := some (67, false) },
                                            { dst := some 74, op := SOp.mov (Operand.tmp 1), g := some (67, false) },
                                            { dst := some 75, op := SOp.mov (Operand.tmp 5), g := some (67, false) },
                                            { dst := some 76, op := SOp.idx 5 (Operand.tmp 74) (Operand.tmp 75),
                                              g := some (67, false) },
                                            { dst := some 77, op := SOp.fld 4 (Operand.tmp 76), g := some (67, false) },
                                            { dst := some 78, op := SOp.load1 (Operand.tmp 77), g := some (67, false) },
                                            { dst := some 79, op := SOp.len (Operand.tmp 78), g := some (67, false) },
                                            { dst := some 80, op := SOp.bin BinOp.neq (Operand.tmp 73) (Operand.tmp 79),
                                              g := some (67, false) },
                                            { dst := some 81,
                                              op := SOp.pick 67 (Operand.const (Value.bool true)) (Operand.tmp 80),
                                              g := none }]).seq
                                      (SC.cond (Operand.tmp 81)
                                        ((SC.ops false
                                              [{ dst := some 4, op := SOp.mov (Operand.const (Value.bool false)),
                                                  g := none }]).seq
                                          SC.ret)
                                        SC.skip)).seq
                                  ((SC.ops false
                                        [{ dst := some 82, op := SOp.mov (Operand.tmp 0), g := none },
                                          { dst := some 83, op := SOp.mov (Operand.tmp 5), g := none },
                                          { dst := some 84, op := SOp.idx 5 (Operand.tmp 82) (Operand.tmp 83),
                                            g := none },
                                          { dst := some 85, op := SOp.fld 4 (Operand.tmp 84), g := none },
                                          { dst := some 86, op := SOp.load1 (Operand.tmp 85), g := none },
                                          { dst := some 87, op := SOp.len (Operand.tmp 86), g := none },
                                          { dst := some 88,
                                            op := SOp.mov (Operand.const (Value.int IntKind.i64 (Int.ofNat 0))),
                                            g := none }]).seq
                                    (SC.block 2
                                      ((SC.ops false
                                              [{ dst := some 89,
                                                  op := SOp.bin BinOp.lss (Operand.tmp 88) (Operand.tmp 87),
                                                  g := none }]).seq
                                          ((SC.cond (Operand.tmp 89) SC.skip (SC.exit 2)).seq
                                            ((SC.block 3
                                                  ((SC.ops false
                                                        [{ dst := some 90, op := SOp.mov (Operand.tmp 88), g := none },
                                                          { dst := some 6, op := SOp.mov (Operand.tmp 90),
                                                            g := none }]).seq
                                                    ((SC.ops true
                                                          [{ dst := some 91, op := SOp.mov (Operand.tmp 0), g := none },
                                                            { dst := some 92, op := SOp.mov (Operand.tmp 5),
                                                              g := none },
                                                            { dst := some 93,
                                                              op := SOp.idx 5 (Operand.tmp 91) (Operand.tmp 92),
                                                              g := none },
                                                            { dst := some 94, op := SOp.fld 4 (Operand.tmp 93),
                                                              g := none },
                                                            { dst := some 95, op := SOp.load1 (Operand.tmp 94),
                                                              g := none },
                                                            { dst := some 96, op := SOp.mov (Operand.tmp 6),
                                                              g := none },
                                                            { dst := some 97,
                                                              op := SOp.idx 2 (Operand.tmp 95) (Operand.tmp 96),
                                                              g := none },
                                                            { dst := some 98, op := SOp.loadN 2 (Operand.tmp 97),
                                                              g := none },
                                                            { dst := some 99, op := SOp.mov (Operand.tmp 1),
                                                              g := none },
                                                            { dst := some 100, op := SOp.mov (Operand.tmp 5),
                                                              g := none },
                                                            { dst := some 101,
                                                              op := SOp.idx 5 (Operand.tmp 99) (Operand.tmp 100),
                                                              g := none },
                                                            { dst := some 102, op := SOp.fld 4 (Operand.tmp 101),
                                                              g := none },
                                                            { dst := some 103, op := SOp.load1 (Operand.tmp 102),
                                                              g := none },
                                                            { dst := some 104, op := SOp.mov (Operand.tmp 6),
                                                              g := none },
                                                            { dst := some 105,
                                                              op := SOp.idx 2 (Operand.tmp 103) (Operand.tmp 104),
                                                              g := none },
                                                            { dst := some 106, op := SOp.loadN 2 (Operand.tmp 105),
                                                              g := none },
                                                            { dst := some 107,
                                                              op := SOp.binA true 41 (Operand.tmp 98) (Operand.tmp 106),
                                                              g := none }]).seq
                                                      (SC.cond (Operand.tmp 107)
                                                        ((SC.ops false
                                                              [{ dst := some 4,
                                                                  op := SOp.mov (Operand.const (Value.bool false)),
                                                                  g := none }]).seq
                                                          SC.ret)
                                                        SC.skip)))).seq
                                              (SC.ops false
                                                [{ dst := some 108,
                                                    op :=
                                                      SOp.bin BinOp.add (Operand.tmp 88)
                                                        (Operand.const (Value.int IntKind.i64 (Int.ofNat 1))),
                                                    g := none },
                                                  { dst := some 88, op := SOp.mov (Operand.tmp 108),
                                                    g := none }])))).loop))))).seq
                          (SC.ops false
                            [{ dst := some 109,
                                op :=
                                  SOp.bin BinOp.add (Operand.tmp 14)
                                    (Operand.const (Value.int IntKind.i64 (Int.ofNat 1))),
                                g := none },
                              { dst := some 14, op := SOp.mov (Operand.tmp 109), g := none }])))).loop)).seq
            ((SC.ops false [{ dst := some 4, op := SOp.mov (Operand.const (Value.bool true)), g := none }]).seq
              SC.ret))),
    res := [SR.tmp 4] }
theorem F25_ok : slimFn Try.prog hv Try.f25 = some F25 := by kernel_rfl
def F30 : Fn :=

  { N := 6,
    code :=
      (SC.ops false [{ dst := some 0, op := SOp.mov (Operand.const (Value.slice none 0 0)), g := none }]).seq
        ((SC.ops false
              [{ dst := some 1,
                  op :=
                    SOp.build [Value.int IntKind.i64 (Int.ofNat 0), Value.int IntKind.i64 (Int.ofNat 0)]
                      [(0, 1, Operand.const (Value.int IntKind.i64 (Int.ofNat 7))),
                        (1, 1, Operand.const (Value.int IntKind.i64 (Int.ofNat 40)))],
                  g := none },
                { dst := some 2,
                  op :=
                    SOp.build [Value.int IntKind.i64 (Int.ofNat 0), Value.int IntKind.i64 (Int.ofNat 0)]
                      [(0, 1, Operand.const (Value.int IntKind.i64 (Int.ofNat 8))),
                        (1, 1, Operand.const (Value.int IntKind.i64 (Int.ofNat 20)))],
                  g := none },
                { dst := some 3,
                  op :=
                    SOp.buildS 41 2 2 [Value.int IntKind.i64 (Int.ofNat 0), Value.int IntKind.i64 (Int.ofNat 0)]
                      [(0, Operand.tmp 1), (1, Operand.tmp 2)],
                  g := none },
                { dst := some 4,
                  op :=
                    SOp.build
                      [Value.int IntKind.i64 (Int.ofNat 0), Value.int IntKind.i64 (Int.ofNat 0),
                        Value.int IntKind.i64 (Int.ofNat 0), Value.int IntKind.i64 (Int.ofNat 0), Value.slice none 0 0]
                      [(0, 1, Operand.const (Value.int IntKind.i64 (Int.ofNat 3))),
                        (1, 1, Operand.const (Value.int IntKind.i64 (Int.ofNat 100))),
                        (2, 1, Operand.const (Value.int IntKind.i64 (Int.ofNat 90))), (4, 1, Operand.tmp 3)],
                  g := none },
                { dst := some 5,
                  op :=
                    SOp.buildS 27 5 1
                      [Value.int IntKind.i64 (Int.ofNat 0), Value.int IntKind.i64 (Int.ofNat 0),
                        Value.int IntKind.i64 (Int.ofNat 0), Value.int IntKind.i64 (Int.ofNat 0), Value.slice none 0 0]
                      [(0, Operand.tmp 4)],
                  g := none },
                { dst := some 0, op := SOp.mov (Operand.tmp 5), g := none }]).seq
          SC.ret),
    res := [SR.tmp 0] }
theorem F30_ok : slimFn Try.prog hv Try.f30 = some F30 := by kernel_rfl
def F31 : Fn :=

  { N := 18,
    code :=
      (SC.ops false
            [{ dst := some 2, op := SOp.mov (Operand.const (Value.int IntKind.i64 (Int.ofNat 0))), g := none }]).seq
        ((SC.ops false
              [{ dst := some 3, op := SOp.mov (Operand.const (Value.int IntKind.i64 (Int.ofNat 0))), g := none }]).seq
          (((SC.ops false
                    [{ dst := some 6, op := SOp.mov (Operand.tmp 0), g := none },
                      { dst := some 7, op := SOp.len (Operand.tmp 6), g := none },
                      { dst := some 8, op := SOp.mov (Operand.const (Value.int IntKind.i64 (Int.ofNat 0))),
                        g := none }]).seq
                (SC.block 0
                  ((SC.ops false
                          [{ dst := some 9, op := SOp.bin BinOp.lss (Operand.tmp 8) (Operand.tmp 7), g := none }]).seq
                      ((SC.cond (Operand.tmp 9) SC.skip (SC.exit 0)).seq
                        ((SC.block 1
                              ((SC.ops false
                                    [{ dst := some 10, op := SOp.idx 2 (Operand.tmp 6) (Operand.tmp 8), g := none },
                                      { dst := some 11, op := SOp.loadN 2 (Operand.tmp 10), g := none },
                                      { dst := some 5,
                                        op :=
                                          SOp.alloc 41
                                            [Value.int IntKind.i64 (Int.ofNat 0), Value.int IntKind.i64 (Int.ofNat 0)],
                                        g := none },
                                      { dst := none, op := SOp.store 2 (Operand.tmp 5) (Operand.tmp 11),
                                        g := none }]).seq
                                (SC.ops false
                                  [{ dst := some 12, op := SOp.mov (Operand.tmp 3), g := none },
                                    { dst := some 13, op := SOp.fld 1 (Operand.tmp 5), g := none },
                                    { dst := some 14, op := SOp.load1 (Operand.tmp 13), g := none },
                                    { dst := some 15, op := SOp.bin BinOp.add (Operand.tmp 12) (Operand.tmp 14),
                                      g := none },
                                    { dst := some 3, op := SOp.mov (Operand.tmp 15), g := none }]))).seq
                          (SC.ops false
                            [{ dst := some 16,
                                op :=
                                  SOp.bin BinOp.add (Operand.tmp 8)
                                    (Operand.const (Value.int IntKind.i64 (Int.ofNat 1))),
                                g := none },
                              { dst := some 8, op := SOp.mov (Operand.tmp 16), g := none }])))).loop)).seq
            ((SC.ops false
                  [{ dst := some 17, op := SOp.mov (Operand.tmp 3), g := none },
                    { dst := some 2, op := SOp.mov (Operand.tmp 17), g := none }]).seq
              SC.ret))),
    res := [SR.tmp 2] }
theorem F31_ok : slimFn Try.prog hv Try.f31 = some F31 := by kernel_rfl
def F32 : Fn :=

  { N := 19,
    code :=
      (SC.ops false
            [{ dst := some 1, op := SOp.box 27 (Operand.tmp 0), g := none },
              { dst := some 2, op := SOp.mov (Operand.const (Value.int IntKind.i64 (Int.ofNat 0))), g := none }]).seq
        ((SC.ops false
              [{ dst := some 3, op := SOp.mov (Operand.const (Value.int IntKind.i64 (Int.ofNat 0))), g := none }]).seq
          (((SC.ops false
                    [{ dst := some 6, op := SOp.fld 4 (Operand.tmp 1), g := none },
                      { dst := some 7, op := SOp.load1 (Operand.tmp 6), g := none },
                      { dst := some 8, op := SOp.len (Operand.tmp 7), g := none },
                      { dst := some 9, op := SOp.mov (Operand.const (Value.int IntKind.i64 (Int.ofNat 0))),
                        g := none }]).seq
                (SC.block 0
                  ((SC.ops false
                          [{ dst := some 10, op := SOp.bin BinOp.lss (Operand.tmp 9) (Operand.tmp 8), g := none }]).seq
                      ((SC.cond (Operand.tmp 10) SC.skip (SC.exit 0)).seq
                        ((SC.block 1
                              ((SC.ops false
                                    [{ dst := some 11, op := SOp.idx 2 (Operand.tmp 7) (Operand.tmp 9), g := none },
                                      { dst := some 12, op := SOp.loadN 2 (Operand.tmp 11), g := none },
                                      { dst := some 5,
                                        op :=
                                          SOp.alloc 41
                                            [Value.int IntKind.i64 (Int.ofNat 0), Value.int IntKind.i64 (Int.ofNat 0)],
                                        g := none },
                                      { dst := none, op := SOp.store 2 (Operand.tmp 5) (Operand.tmp 12),
                                        g := none }]).seq
                                (SC.ops false
                                  [{ dst := some 13, op := SOp.mov (Operand.tmp 3), g := none },
                                    { dst := some 14, op := SOp.fld 1 (Operand.tmp 5), g := none },
                                    { dst := some 15, op := SOp.load1 (Operand.tmp 14), g := none },
                                    { dst := some 16, op := SOp.bin BinOp.add (Operand.tmp 13) (Operand.tmp 15),
                                      g := none },
                                    { dst := some 3, op := SOp.mov (Operand.tmp 16), g := none }]))).seq
                          (SC.ops false
                            [{ dst := some 17,
                                op :=
                                  SOp.bin BinOp.add (Operand.tmp 9)
                                    (Operand.const (Value.int IntKind.i64 (Int.ofNat 1))),
                                g := none },
                              { dst := some 9, op := SOp.mov (Operand.tmp 17), g := none }])))).loop)).seq
            ((SC.ops false
                  [{ dst := some 18, op := SOp.mov (Operand.tmp 3), g := none },
                    { dst := some 2, op := SOp.mov (Operand.tmp 18), g := none }]).seq
              SC.ret))),
    res := [SR.tmp 2] }
theorem F32_ok : slimFn Try.prog hv Try.f32 = some F32 := by kernel_rfl
def F33 : Fn :=

  { N := 25,
    code :=
      (SC.ops false
            [{ dst := some 3, op := SOp.box 3 (Operand.tmp 1), g := none },
              { dst := some 4, op := SOp.mov (Operand.const (Value.int IntKind.i64 (Int.ofNat 0))), g := none },
              { dst := some 5, op := SOp.mov (Operand.const (Value.int IntKind.i64 (Int.ofNat 0))), g := none }]).seq
        (((SC.ops false
                  [{ dst := some 9, op := SOp.mov (Operand.tmp 0), g := none },
                    { dst := some 10, op := SOp.len (Operand.tmp 9), g := none },
                    { dst := some 11, op := SOp.mov (Operand.const (Value.int IntKind.i64 (Int.ofNat 0))),
                      g := none }]).seq
              (SC.block 0
                ((SC.ops false
                        [{ dst := some 12, op := SOp.bin BinOp.lss (Operand.tmp 11) (Operand.tmp 10), g := none }]).seq
                    ((SC.cond (Operand.tmp 12) SC.skip (SC.exit 0)).seq
                      ((SC.block 1
                            ((SC.ops false
                                  [{ dst := some 13, op := SOp.mov (Operand.tmp 11), g := none },
                                    { dst := some 14, op := SOp.idx 5 (Operand.tmp 9) (Operand.tmp 11), g := none },
                                    { dst := some 15, op := SOp.loadN 5 (Operand.tmp 14), g := none },
                                    { dst := some 7,
                                      op :=
                                        SOp.alloc 27
                                          [Value.int IntKind.i64 (Int.ofNat 0), Value.int IntKind.i64 (Int.ofNat 0),
                                            Value.int IntKind.i64 (Int.ofNat 0), Value.int IntKind.i64 (Int.ofNat 0),
                                            Value.slice none 0 0],
                                      g := none },
                                    { dst := some 6, op := SOp.mov (Operand.tmp 13), g := none },
                                    { dst := none, op := SOp.store 5 (Operand.tmp 7) (Operand.tmp 15), g := none }]).seq
                              ((SC.ops false
                                    [{ dst := some 16, op := SOp.fld 4 (Operand.tmp 7), g := none },
                                      { dst := some 17, op := SOp.load1 (Operand.tmp 16), g := none },
                                      { dst := some 18, op := SOp.mkfn 49 [Operand.tmp 3], g := none },
                                      { dst := some 19, op := SOp.call 48 [Operand.tmp 17, Operand.tmp 18], g := none },
                                      { dst := some 8, op := SOp.mov (Operand.tmp 19), g := none }]).seq
                                ((SC.ops false
                                      [{ dst := some 20, op := SOp.mov (Operand.tmp 8), g := none },
                                        { dst := some 21,
                                          op :=
                                            SOp.bin BinOp.geq (Operand.tmp 20)
                                              (Operand.const (Value.int IntKind.i64 (Int.ofNat 0))),
                                          g := none }]).seq
                                  (SC.cond (Operand.tmp 21)
                                    ((SC.ops false
                                          [{ dst := some 22, op := SOp.mov (Operand.tmp 6), g := none },
                                            { dst := some 23, op := SOp.mov (Operand.tmp 8), g := none },
                                            { dst := some 4, op := SOp.mov (Operand.tmp 22), g := none },
                                            { dst := some 5, op := SOp.mov (Operand.tmp 23), g := none }]).seq
                                      SC.ret)
                                    SC.skip))))).seq
                        (SC.ops false
                          [{ dst := some 24,
                              op :=
                                SOp.bin BinOp.add (Operand.tmp 11)
                                  (Operand.const (Value.int IntKind.i64 (Int.ofNat 1))),
                              g := none },
                            { dst := some 11, op := SOp.mov (Operand.tmp 24), g := none }])))).loop)).seq
          ((SC.ops false
                [{ dst := some 4, op := SOp.mov (Operand.const (Value.int IntKind.i64 (Int.negSucc 0))), g := none },
                  { dst := some 5, op := SOp.mov (Operand.const (Value.int IntKind.i64 (Int.negSucc 0))),
                    g := none }]).seq
            SC.ret)),
    res := [SR.tmp 4, SR.tmp 5] }
theorem F33_ok : slimFn Try.prog hv Try.f33 = some F33 := by kernel_rfl
def F34 : Fn :=

  { N := 45,
    code :=
      (SC.ops false
            [{ dst := some 1, op := SOp.box 27 (Operand.tmp 0), g := none },
              { dst := some 2, op := SOp.mov (Operand.const (Value.int IntKind.i64 (Int.ofNat 0))), g := none }]).seq
        ((SC.block 0
              ((SC.ops false
                    [{ dst := some 4, op := SOp.fld 0 (Operand.tmp 1), g := none },
                      { dst := some 5, op := SOp.load1 (Operand.tmp 4), g := none },
                      { dst := some 6,
                        op :=
                          SOp.call 38
                            [Operand.tmp 5, Operand.const (Value.int IntKind.i64 (Int.ofNat 1)),
                              Operand.const (Value.int IntKind.i64 (Int.ofNat 1073741824))],
                        g := none },
                      { dst := some 7, op := SOp.un UnOp.not (Operand.tmp 6), g := none },
                      { dst := some 8, op := SOp.mov (Operand.tmp 7), g := none },
                      { dst := some 9, op := SOp.fld 1 (Operand.tmp 1), g := some (8, false) },
                      { dst := some 10, op := SOp.load1 (Operand.tmp 9), g := some (8, false) },
                      { dst := some 11,
                        op :=
                          SOp.call 38
                            [Operand.tmp 10, Operand.const (Value.int IntKind.i64 (Int.ofNat 1)),
                              Operand.const (Value.int IntKind.i64 (Int.ofNat 10000))],
                        g := some (8, false) },
                      { dst := some 12, op := SOp.un UnOp.not (Operand.tmp 11), g := some (8, false) },
                      { dst := some 13, op := SOp.pick 8 (Operand.const (Value.bool true)) (Operand.tmp 12),
                        g := none },
                      { dst := some 14, op := SOp.mov (Operand.tmp 13), g := none },
                      { dst := some 15, op := SOp.fld 2 (Operand.tmp 1), g := some (14, false) },
                      { dst := some 16, op := SOp.load1 (Operand.tmp 15), g := some (14, false) },
                      { dst := some 17, op := SOp.fld 1 (Operand.tmp 1), g := some (14, false) },
                      { dst := some 18, op := SOp.load1 (Operand.tmp 17), g := some (14, false) },
                      { dst := some 19,
                        op :=
                          SOp.call 38
                            [Operand.tmp 16, Operand.const (Value.int IntKind.i64 (Int.ofNat 1)), Operand.tmp 18],
                        g := some (14, false) },
                      { dst := some 20, op := SOp.un UnOp.not (Operand.tmp 19), g := some (14, false) },
                      { dst := some 21, op := SOp.pick 14 (Operand.const (Value.bool true)) (Operand.tmp 20),
                        g := none },
                      { dst := some 22, op := SOp.mov (Operand.tmp 21), g := none },
                      { dst := some 23, op := SOp.fld 3 (Operand.tmp 1), g := some (22, false) },
                      { dst := some 24, op := SOp.load1 (Operand.tmp 23), g := some (22, false) },
                      { dst := some 25,
                        op :=
                          SOp.call 38
                            [Operand.tmp 24, Operand.const (Value.int IntKind.i64 (Int.ofNat 0)),
                              Operand.const (Value.int IntKind.i64 (Int.ofNat 7))],
                        g := some (22, false) },
                      { dst := some 26, op := SOp.un UnOp.not (Operand.tmp 25), g := some (22, false) },
                      { dst := some 27, op := SOp.pick 22 (Operand.const (Value.bool true)) (Operand.tmp 26),
                        g := none },
                      { dst := some 28, op := SOp.mov (Operand.tmp 27), g := none },
                      { dst := some 29, op := SOp.fld 4 (Operand.tmp 1), g := some (28, false) },
                      { dst := some 30, op := SOp.load1 (Operand.tmp 29), g := some (28, false) },
                      { dst := some 31, op := SOp.call 50 [Operand.tmp 30, Operand.func 51], g := some (28, false) },
                      { dst := some 32, op := SOp.pick 28 (Operand.const (Value.bool true)) (Operand.tmp 31),
                        g := none },
                      { dst := some 3, op := SOp.mov (Operand.tmp 32), g := none }]).seq
                (SC.cond (Operand.tmp 3)
                  ((SC.ops false
                        [{ dst := some 2, op := SOp.mov (Operand.const (Value.int IntKind.i64 (Int.ofNat 2))),
                            g := none }]).seq
                    SC.ret)
                  ((SC.ops false
                        [{ dst := some 34, op := SOp.fld 4 (Operand.tmp 1), g := none },
                          { dst := some 35, op := SOp.load1 (Operand.tmp 34), g := none },
                          { dst := some 36, op := SOp.len (Operand.tmp 35), g := none },
                          { dst := some 37,
                            op :=
                              SOp.bin BinOp.gtr (Operand.tmp 36) (Operand.const (Value.int IntKind.i64 (Int.ofNat 32))),
                            g := none },
                          { dst := some 33, op := SOp.mov (Operand.tmp 37), g := none }]).seq
                    (SC.cond (Operand.tmp 33)
                      ((SC.ops false
                            [{ dst := some 2, op := SOp.mov (Operand.const (Value.int IntKind.i64 (Int.ofNat 8))),
                                g := none }]).seq
                        SC.ret)
                      ((SC.ops true
                            [{ dst := some 39, op := SOp.fld 4 (Operand.tmp 1), g := none },
                              { dst := some 40, op := SOp.load1 (Operand.tmp 39), g := none },
                              { dst := some 41, op := SOp.call 31 [Operand.tmp 40], g := none },
                              { dst := some 42, op := SOp.fld 2 (Operand.tmp 1), g := none },
                              { dst := some 43, op := SOp.load1 (Operand.tmp 42), g := none },
                              { dst := some 44, op := SOp.bin BinOp.gtr (Operand.tmp 41) (Operand.tmp 43), g := none },
                              { dst := some 38, op := SOp.mov (Operand.tmp 44), g := none }]).seq
                        (SC.cond (Operand.tmp 38)
                          ((SC.ops false
                                [{ dst := some 2, op := SOp.mov (Operand.const (Value.int IntKind.i64 (Int.ofNat 12))),
                                    g := none }]).seq
                            SC.ret)
                          SC.skip))))))).seq
          ((SC.ops false
                [{ dst := some 2, op := SOp.mov (Operand.const (Value.int IntKind.i64 (Int.ofNat 0))), g := none }]).seq
            SC.ret)),
    res := [SR.tmp 2] }
theorem F34_ok : slimFn Try.prog hv Try.f34 = some F34 := by kernel_rfl
def F35 : Fn :=

  { N := 65,
    code :=
      (SC.ops false
            [{ dst := some 1, op := SOp.box 27 (Operand.tmp 0), g := none },
              { dst := some 2, op := SOp.mov (Operand.const (Value.int IntKind.i64 (Int.ofNat 0))), g := none }]).seq
        (((SC.ops false
                  [{ dst := some 5, op := SOp.fld 0 (Operand.tmp 1), g := none },
                    { dst := some 6, op := SOp.load1 (Operand.tmp 5), g := none },
                    { dst := some 7,
                      op := SOp.bin BinOp.lss (Operand.tmp 6) (Operand.const (Value.int IntKind.i64 (Int.ofNat 1))),
                      g := none },
                    { dst := some 8, op := SOp.mov (Operand.tmp 7), g := none },
                    { dst := some 9, op := SOp.fld 0 (Operand.tmp 1), g := some (8, false) },
                    { dst := some 10, op := SOp.load1 (Operand.tmp 9), g := some (8, false) },
                    { dst := some 11,
                      op :=
                        SOp.bin BinOp.gtr (Operand.tmp 10)
                          (Operand.const (Value.int IntKind.i64 (Int.ofNat 1073741824))),
                      g := some (8, false) },
                    { dst := some 12, op := SOp.pick 8 (Operand.const (Value.bool true)) (Operand.tmp 11), g := none },
                    { dst := some 13, op := SOp.mov (Operand.tmp 12), g := none },
                    { dst := some 14, op := SOp.fld 1 (Operand.tmp 1), g := some (13, false) },
                    { dst := some 15, op := SOp.load1 (Operand.tmp 14), g := some (13, false) },
                    { dst := some 16,
                      op := SOp.bin BinOp.lss (Operand.tmp 15) (Operand.const (Value.int IntKind.i64 (Int.ofNat 1))),
                      g := some (13, false) },
                    { dst := some 17, op := SOp.pick 13 (Operand.const (Value.bool true)) (Operand.tmp 16), g := none },
                    { dst := some 18, op := SOp.mov (Operand.tmp 17), g := none },
                    { dst := some 19, op := SOp.fld 1 (Operand.tmp 1), g := some (18, false) },
                    { dst := some 20, op := SOp.load1 (Operand.tmp 19), g := some (18, false) },
                    { dst := some 21,
                      op :=
                        SOp.bin BinOp.gtr (Operand.tmp 20) (Operand.const (Value.int IntKind.i64 (Int.ofNat 10000))),
                      g := some (18, false) },
                    { dst := some 22, op := SOp.pick 18 (Operand.const (Value.bool true)) (Operand.tmp 21), g := none },
                    { dst := some 23, op := SOp.mov (Operand.tmp 22), g := none },
                    { dst := some 24, op := SOp.fld 2 (Operand.tmp 1), g := some (23, false) },
                    { dst := some 25, op := SOp.load1 (Operand.tmp 24), g := some (23, false) },
                    { dst := some 26,
                      op := SOp.bin BinOp.lss (Operand.tmp 25) (Operand.const (Value.int IntKind.i64 (Int.ofNat 1))),
                      g := some (23, false) },
                    { dst := some 27, op := SOp.pick 23 (Operand.const (Value.bool true)) (Operand.tmp 26), g := none },
                    { dst := some 28, op := SOp.mov (Operand.tmp 27), g := none },
                    { dst := some 29, op := SOp.fld 2 (Operand.tmp 1), g := some (28, false) },
                    { dst := some 30, op := SOp.load1 (Operand.tmp 29), g := some (28, false) },
                    { dst := some 31, op := SOp.fld 1 (Operand.tmp 1), g := some (28, false) },
                    { dst := some 32, op := SOp.load1 (Operand.tmp 31), g := some (28, false) },
                    { dst := some 33, op := SOp.bin BinOp.gtr (Operand.tmp 30) (Operand.tmp 32),
                      g := some (28, false) },
                    { dst := some 34, op := SOp.pick 28 (Operand.const (Value.bool true)) (Operand.tmp 33), g := none },
                    { dst := some 35, op := SOp.mov (Operand.tmp 34), g := none },
                    { dst := some 36, op := SOp.fld 3 (Operand.tmp 1), g := some (35, false) },
                    { dst := some 37, op := SOp.load1 (Operand.tmp 36), g := some (35, false) },
                    { dst := some 38,
                      op := SOp.bin BinOp.lss (Operand.tmp 37) (Operand.const (Value.int IntKind.i64 (Int.ofNat 0))),
                      g := some (35, false) },
                    { dst := some 39, op := SOp.pick 35 (Operand.const (Value.bool true)) (Operand.tmp 38), g := none },
                    { dst := some 40, op := SOp.mov (Operand.tmp 39), g := none },
                    { dst := some 41, op := SOp.fld 3 (Operand.tmp 1), g := some (40, false) },
                    { dst := some 42, op := SOp.load1 (Operand.tmp 41), g := some (40, false) },
                    { dst := some 43,
                      op := SOp.bin BinOp.gtr (Operand.tmp 42) (Operand.const (Value.int IntKind.i64 (Int.ofNat 7))),
                      g := some (40, false) },
                    { dst := some 44, op := SOp.pick 40 (Operand.const (Value.bool true)) (Operand.tmp 43),
                      g := none }]).seq
              (SC.cond (Operand.tmp 44)
                ((SC.ops false
                      [{ dst := some 2, op := SOp.mov (Operand.const (Value.int IntKind.i64 (Int.ofNat 2))),
                          g := none }]).seq
                  SC.ret)
                SC.skip)).seq
          (((SC.ops false
                    [{ dst := some 45, op := SOp.fld 4 (Operand.tmp 1), g := none },
                      { dst := some 46, op := SOp.load1 (Operand.tmp 45), g := none },
                      { dst := some 47, op := SOp.len (Operand.tmp 46), g := none },
                      { dst := some 48, op := SOp.mov (Operand.const (Value.int IntKind.i64 (Int.ofNat 0))),
                        g := none }]).seq
                (SC.block 0
                  ((SC.ops false
                          [{ dst := some 49, op := SOp.bin BinOp.lss (Operand.tmp 48) (Operand.tmp 47),
                              g := none }]).seq
                      ((SC.cond (Operand.tmp 49) SC.skip (SC.exit 0)).seq
                        ((SC.block 1
                              ((SC.ops false
                                    [{ dst := some 50, op := SOp.idx 2 (Operand.tmp 46) (Operand.tmp 48), g := none },
                                      { dst := some 51, op := SOp.loadN 2 (Operand.tmp 50), g := none },
                                      { dst := some 4,
                                        op :=
                                          SOp.alloc 41
                                            [Value.int IntKind.i64 (Int.ofNat 0), Value.int IntKind.i64 (Int.ofNat 0)],
                                        g := none },
                                      { dst := none, op := SOp.store 2 (Operand.tmp 4) (Operand.tmp 51),
                                        g := none }]).seq
                                ((SC.ops false
                                      [{ dst := some 52, op := SOp.loadN 2 (Operand.tmp 4), g := none },
                                        { dst := some 53, op := SOp.call 44 [Operand.tmp 52], g := none },
                                        { dst := some 54, op := SOp.un UnOp.not (Operand.tmp 53), g := none }]).seq
                                  (SC.cond (Operand.tmp 54)
                                    ((SC.ops false
                                          [{ dst := some 2,
                                              op := SOp.mov (Operand.const (Value.int IntKind.i64 (Int.ofNat 2))),
                                              g := none }]).seq
                                      SC.ret)
                                    SC.skip)))).seq
                          (SC.ops false
                            [{ dst := some 55,
                                op :=
                                  SOp.bin BinOp.add (Operand.tmp 48)
                                    (Operand.const (Value.int IntKind.i64 (Int.ofNat 1))),
                                g := none },
                              { dst := some 48, op := SOp.mov (Operand.tmp 55), g := none }])))).loop)).seq
            (((SC.ops false
                      [{ dst := some 56, op := SOp.fld 4 (Operand.tmp 1), g := none },
                        { dst := some 57, op := SOp.load1 (Operand.tmp 56), g := none },
                        { dst := some 58, op := SOp.len (Operand.tmp 57), g := none },
                        { dst := some 59,
                          op :=
                            SOp.bin BinOp.gtr (Operand.tmp 58) (Operand.const (Value.int IntKind.i64 (Int.ofNat 32))),
                          g := none }]).seq
                  (SC.cond (Operand.tmp 59)
                    ((SC.ops false
                          [{ dst := some 2, op := SOp.mov (Operand.const (Value.int IntKind.i64 (Int.ofNat 8))),
                              g := none }]).seq
                      SC.ret)
                    SC.skip)).seq
              (((SC.ops true
                        [{ dst := some 60, op := SOp.loadN 5 (Operand.tmp 1), g := none },
                          { dst := some 61, op := SOp.call 32 [Operand.tmp 60], g := none },
                          { dst := some 62, op := SOp.fld 2 (Operand.tmp 1), g := none },
                          { dst := some 63, op := SOp.load1 (Operand.tmp 62), g := none },
                          { dst := some 64, op := SOp.bin BinOp.gtr (Operand.tmp 61) (Operand.tmp 63), g := none }]).seq
                    (SC.cond (Operand.tmp 64)
                      ((SC.ops false
                            [{ dst := some 2, op := SOp.mov (Operand.const (Value.int IntKind.i64 (Int.ofNat 12))),
                                g := none }]).seq
                        SC.ret)
                      SC.skip)).seq
                ((SC.ops false
                      [{ dst := some 2, op := SOp.mov (Operand.const (Value.int IntKind.i64 (Int.ofNat 0))),
                          g := none }]).seq
                  SC.ret))))),
    res := [SR.tmp 2] }
theorem F35_ok : slimFn Try.prog hv Try.f35 = some F35 := by kernel_rfl
def F36 : Fn :=

  { N := 23,
    code :=
      (SC.ops false
            [{ dst := some 2, op := SOp.box 27 (Operand.tmp 0), g := none },
              { dst := some 4, op := SOp.mov (Operand.const (Value.int IntKind.i64 (Int.ofNat 0))), g := none }]).seq
        ((SC.ops false
              [{ dst := some 5, op := SOp.mov (Operand.const (Value.int IntKind.i64 (Int.ofNat 0))), g := none }]).seq
          (((SC.ops false
                    [{ dst := some 8, op := SOp.fld 4 (Operand.tmp 2), g := none },
                      { dst := some 9, op := SOp.load1 (Operand.tmp 8), g := none },
                      { dst := some 10, op := SOp.len (Operand.tmp 9), g := none },
                      { dst := some 11, op := SOp.mov (Operand.const (Value.int IntKind.i64 (Int.ofNat 0))),
                        g := none }]).seq
                (SC.block 0
                  ((SC.ops false
                          [{ dst := some 12, op := SOp.bin BinOp.lss (Operand.tmp 11) (Operand.tmp 10),
                              g := none }]).seq
                      ((SC.cond (Operand.tmp 12) SC.skip (SC.exit 0)).seq
                        ((SC.block 1
                              ((SC.ops false
                                    [{ dst := some 13, op := SOp.idx 2 (Operand.tmp 9) (Operand.tmp 11), g := none },
                                      { dst := some 14, op := SOp.loadN 2 (Operand.tmp 13), g := none },
                                      { dst := some 7,
                                        op :=
                                          SOp.alloc 41
                                            [Value.int IntKind.i64 (Int.ofNat 0), Value.int IntKind.i64 (Int.ofNat 0)],
                                        g := none },
                                      { dst := none, op := SOp.store 2 (Operand.tmp 7) (Operand.tmp 14),
                                        g := none }]).seq
                                ((SC.ops false
                                      [{ dst := some 15, op := SOp.fld 0 (Operand.tmp 7), g := none },
                                        { dst := some 16, op := SOp.load1 (Operand.tmp 15), g := none },
                                        { dst := some 17, op := SOp.mov (Operand.tmp 1), g := none },
                                        { dst := some 18, op := SOp.bin BinOp.eql (Operand.tmp 16) (Operand.tmp 17),
                                          g := none }]).seq
                                  (SC.cond (Operand.tmp 18)
                                    (SC.ops false
                                      [{ dst := some 19, op := SOp.mov (Operand.tmp 5), g := none },
                                        { dst := some 20,
                                          op :=
                                            SOp.bin BinOp.add (Operand.tmp 19)
                                              (Operand.const (Value.int IntKind.i64 (Int.ofNat 1))),
                                          g := none },
                                        { dst := some 5, op := SOp.mov (Operand.tmp 20), g := none }])
                                    SC.skip)))).seq
                          (SC.ops false
                            [{ dst := some 21,
                                op :=
                                  SOp.bin BinOp.add (Operand.tmp 11)
                                    (Operand.const (Value.int IntKind.i64 (Int.ofNat 1))),
                                g := none },
                              { dst := some 11, op := SOp.mov (Operand.tmp 21), g := none }])))).loop)).seq
            ((SC.ops false
                  [{ dst := some 22, op := SOp.mov (Operand.tmp 5), g := none },
                    { dst := some 4, op := SOp.mov (Operand.tmp 22), g := none }]).seq
              SC.ret))),
    res := [SR.tmp 4] }
theorem F36_ok : slimFn Try.prog hv Try.f36 = some F36 := by kernel_rfl
def F37 : Fn :=

  { N := 8,
    code :=
      (SC.ops false
            [{ dst := some 3, op := SOp.box 3 (Operand.tmp 1), g := none },
              { dst := some 4, op := SOp.mov (Operand.const (Value.int IntKind.i64 (Int.ofNat 0))), g := none }]).seq
        ((SC.ops false
              [{ dst := some 5, op := SOp.mov (Operand.tmp 0), g := none },
                { dst := some 6, op := SOp.mkfn 53 [Operand.tmp 3], g := none },
                { dst := some 7, op := SOp.call 52 [Operand.tmp 5, Operand.tmp 6], g := none },
                { dst := some 4, op := SOp.mov (Operand.tmp 7), g := none }]).seq
          SC.ret),
    res := [SR.tmp 4] }
theorem F37_ok : slimFn Try.prog hv Try.f37 = some F37 := by kernel_rfl
def F38 : Fn :=

  { N := 15,
    code :=
      (SC.ops false [{ dst := some 6, op := SOp.mov (Operand.const (Value.bool false)), g := none }]).seq
        ((SC.ops false
              [{ dst := some 7, op := SOp.mov (Operand.tmp 0), g := none },
                { dst := some 8, op := SOp.mov (Operand.tmp 1), g := none },
                { dst := some 9, op := SOp.bin BinOp.geq (Operand.tmp 7) (Operand.tmp 8), g := none },
                { dst := some 10, op := SOp.mov (Operand.tmp 9), g := none },
                { dst := some 11, op := SOp.mov (Operand.tmp 0), g := some (10, true) },
                { dst := some 12, op := SOp.mov (Operand.tmp 2), g := some (10, true) },
                { dst := some 13, op := SOp.bin BinOp.leq (Operand.tmp 11) (Operand.tmp 12), g := some (10, true) },
                { dst := some 14, op := SOp.pick 10 (Operand.tmp 13) (Operand.const (Value.bool false)), g := none },
                { dst := some 6, op := SOp.mov (Operand.tmp 14), g := none }]).seq
          SC.ret),
    res := [SR.tmp 6] }
theorem F38_ok : slimFn Try.prog hv Try.f38 = some F38 := by kernel_rfl
def F39 : Fn :=

  { N := 24,
    code :=
      (SC.ops false [{ dst := some 2, op := SOp.mov (Operand.const (Value.slice none 0 0)), g := none }]).seq
        ((SC.ops false
              [{ dst := some 5, op := SOp.mov (Operand.tmp 0), g := none },
                { dst := some 6, op := SOp.call 54 [Operand.tmp 5], g := none },
                { dst := some 3, op := SOp.mov (Operand.tmp 6), g := none }]).seq
          (((SC.ops false
                    [{ dst := some 7, op := SOp.mov (Operand.tmp 3), g := none },
                      { dst := some 8, op := SOp.len (Operand.tmp 7), g := none },
                      { dst := some 9, op := SOp.mov (Operand.const (Value.int IntKind.i64 (Int.ofNat 0))),
                        g := none }]).seq
                (SC.block 0
                  ((SC.ops false
                          [{ dst := some 10, op := SOp.bin BinOp.lss (Operand.tmp 9) (Operand.tmp 8), g := none }]).seq
                      ((SC.cond (Operand.tmp 10) SC.skip (SC.exit 0)).seq
                        ((SC.block 1
                              ((SC.ops false
                                    [{ dst := some 11, op := SOp.mov (Operand.tmp 9), g := none },
                                      { dst := some 4, op := SOp.mov (Operand.tmp 11), g := none }]).seq
                                (SC.ops false
                                  [{ dst := some 12, op := SOp.mov (Operand.tmp 3), g := none },
                                    { dst := some 13, op := SOp.mov (Operand.tmp 4), g := none },
                                    { dst := some 14, op := SOp.mov (Operand.tmp 3), g := none },
                                    { dst := some 15, op := SOp.mov (Operand.tmp 4), g := none },
                                    { dst := some 16, op := SOp.idx 5 (Operand.tmp 14) (Operand.tmp 15), g := none },
                                    { dst := some 17, op := SOp.fld 4 (Operand.tmp 16), g := none },
                                    { dst := some 18, op := SOp.load1 (Operand.tmp 17), g := none },
                                    { dst := some 19, op := SOp.call 40 [Operand.tmp 18], g := none },
                                    { dst := some 20, op := SOp.idx 5 (Operand.tmp 12) (Operand.tmp 13), g := none },
                                    { dst := some 21, op := SOp.fld 4 (Operand.tmp 20), g := none },
                                    { dst := none, op := SOp.store 1 (Operand.tmp 21) (Operand.tmp 19),
                                      g := none }]))).seq
                          (SC.ops false
                            [{ dst := some 22,
                                op :=
                                  SOp.bin BinOp.add (Operand.tmp 9)
                                    (Operand.const (Value.int IntKind.i64 (Int.ofNat 1))),
                                g := none },
                              { dst := some 9, op := SOp.mov (Operand.tmp 22), g := none }])))).loop)).seq
            ((SC.ops false
                  [{ dst := some 23, op := SOp.mov (Operand.tmp 3), g := none },
                    { dst := some 2, op := SOp.mov (Operand.tmp 23), g := none }]).seq
              SC.ret))),
    res := [SR.tmp 2] }
theorem F39_ok : slimFn Try.prog hv Try.f39 = some F39 := by kernel_rfl
def F40 : Fn :=

  { N := 8,
    code :=
      (SC.ops false [{ dst := some 2, op := SOp.mov (Operand.const (Value.slice none 0 0)), g := none }]).seq
        (((SC.ops false
                  [{ dst := some 3, op := SOp.mov (Operand.tmp 0), g := none },
                    { dst := some 4, op := SOp.isnil false (Operand.tmp 3), g := none }]).seq
              (SC.cond (Operand.tmp 4)
                ((SC.ops false [{ dst := some 2, op := SOp.mov (Operand.const (Value.slice none 0 0)), g := none }]).seq
                  SC.ret)
                SC.skip)).seq
          ((SC.ops false
                [{ dst := some 5,
                    op :=
                      SOp.buildS 41 2 0 [Value.int IntKind.i64 (Int.ofNat 0), Value.int IntKind.i64 (Int.ofNat 0)] [],
                    g := none },
                  { dst := some 6, op := SOp.mov (Operand.tmp 0), g := none },
                  { dst := some 7,
                    op :=
                      SOp.app 41 2 16 [Value.int IntKind.i64 (Int.ofNat 0), Value.int IntKind.i64 (Int.ofNat 0)]
                        (Operand.tmp 5) (Operand.tmp 6),
                    g := none },
                  { dst := some 2, op := SOp.mov (Operand.tmp 7), g := none }]).seq
            SC.ret)),
    res := [SR.tmp 2] }
theorem F40_ok : slimFn Try.prog hv Try.f40 = some F40 := by kernel_rfl
def F41 : Fn :=

  { N := 20,
    code :=
      (SC.ops false
            [{ dst := some 4, op := SOp.mov (Operand.const (Value.int IntKind.i64 (Int.ofNat 0))), g := none }]).seq
        (((SC.ops false
                  [{ dst := some 7, op := SOp.mov (Operand.tmp 0), g := none },
                    { dst := some 8, op := SOp.len (Operand.tmp 7), g := none },
                    { dst := some 9, op := SOp.mov (Operand.const (Value.int IntKind.i64 (Int.ofNat 0))),
                      g := none }]).seq
              (SC.block 0
                ((SC.ops false
                        [{ dst := some 10, op := SOp.bin BinOp.lss (Operand.tmp 9) (Operand.tmp 8), g := none }]).seq
                    ((SC.cond (Operand.tmp 10) SC.skip (SC.exit 0)).seq
                      ((SC.block 1
                            ((SC.ops false
                                  [{ dst := some 11, op := SOp.mov (Operand.tmp 9), g := none },
                                    { dst := some 12, op := SOp.idx 5 (Operand.tmp 7) (Operand.tmp 9), g := none },
                                    { dst := some 13, op := SOp.loadN 5 (Operand.tmp 12), g := none },
                                    { dst := some 6,
                                      op :=
                                        SOp.alloc 27
                                          [Value.int IntKind.i64 (Int.ofNat 0), Value.int IntKind.i64 (Int.ofNat 0),
                                            Value.int IntKind.i64 (Int.ofNat 0), Value.int IntKind.i64 (Int.ofNat 0),
                                            Value.slice none 0 0],
                                      g := none },
                                    { dst := some 5, op := SOp.mov (Operand.tmp 11), g := none },
                                    { dst := none, op := SOp.store 5 (Operand.tmp 6) (Operand.tmp 13), g := none }]).seq
                              ((SC.ops false
                                    [{ dst := some 14, op := SOp.fld 0 (Operand.tmp 6), g := none },
                                      { dst := some 15, op := SOp.load1 (Operand.tmp 14), g := none },
                                      { dst := some 16, op := SOp.mov (Operand.tmp 1), g := none },
                                      { dst := some 17, op := SOp.bin BinOp.eql (Operand.tmp 15) (Operand.tmp 16),
                                        g := none }]).seq
                                (SC.cond (Operand.tmp 17)
                                  ((SC.ops false
                                        [{ dst := some 18, op := SOp.mov (Operand.tmp 5), g := none },
                                          { dst := some 4, op := SOp.mov (Operand.tmp 18), g := none }]).seq
                                    SC.ret)
                                  SC.skip)))).seq
                        (SC.ops false
                          [{ dst := some 19,
                              op :=
                                SOp.bin BinOp.add (Operand.tmp 9) (Operand.const (Value.int IntKind.i64 (Int.ofNat 1))),
                              g := none },
                            { dst := some 9, op := SOp.mov (Operand.tmp 19), g := none }])))).loop)).seq
          ((SC.ops false
                [{ dst := some 4, op := SOp.mov (Operand.const (Value.int IntKind.i64 (Int.negSucc 0))),
                    g := none }]).seq
            SC.ret)),
    res := [SR.tmp 4] }
theorem F41_ok : slimFn Try.prog hv Try.f41 = some F41 := by kernel_rfl
def F42 : Fn :=

  { N := 11,
    code :=
      (SC.ops false
            [{ dst := some 1, op := SOp.box 41 (Operand.tmp 0), g := none },
              { dst := some 2, op := SOp.mov (Operand.const (Value.bool false)), g := none }]).seq
        ((SC.ops false
              [{ dst := some 3, op := SOp.fld 0 (Operand.tmp 1), g := none },
                { dst := some 4, op := SOp.load1 (Operand.tmp 3), g := none },
                { dst := some 5,
                  op :=
                    SOp.call 38
                      [Operand.tmp 4, Operand.const (Value.int IntKind.i64 (Int.ofNat 1)),
                        Operand.const (Value.int IntKind.i64 (Int.ofNat 1073741824))],
                  g := none },
                { dst := some 6, op := SOp.mov (Operand.tmp 5), g := none },
                { dst := some 7, op := SOp.fld 1 (Operand.tmp 1), g := some (6, true) },
                { dst := some 8, op := SOp.load1 (Operand.tmp 7), g := some (6, true) },
                { dst := some 9,
                  op :=
                    SOp.call 38
                      [Operand.tmp 8, Operand.const (Value.int IntKind.i64 (Int.ofNat 1)),
                        Operand.const (Value.int IntKind.i64 (Int.ofNat 10000))],
                  g := some (6, true) },
                { dst := some 10, op := SOp.pick 6 (Operand.tmp 9) (Operand.const (Value.bool false)), g := none },
                { dst := some 2, op := SOp.mov (Operand.tmp 10), g := none }]).seq
          SC.ret),
    res := [SR.tmp 2] }
theorem F42_ok : slimFn Try.prog hv Try.f42 = some F42 := by kernel_rfl
def F43 : Fn :=

  { N := 13,
    code :=
      (SC.ops false
            [{ dst := some 5, op := SOp.box 41 (Operand.tmp 2), g := none },
              { dst := some 6, op := SOp.mov (Operand.const (Value.slice none 0 0)), g := none }]).seq
        ((SC.opsA [0, 2]
              [{ dst := some 7, op := SOp.mov (Operand.tmp 0), g := none },
                { dst := some 8, op := SOp.call 40 [Operand.tmp 7], g := none },
                { dst := some 9, op := SOp.mov (Operand.tmp 1), g := none },
                { dst := some 10, op := SOp.loadN 2 (Operand.tmp 5), g := none },
                { dst := some 11,
                  op :=
                    SOp.buildS 41 2 1 [Value.int IntKind.i64 (Int.ofNat 0), Value.int IntKind.i64 (Int.ofNat 0)]
                      [(0, Operand.tmp 10)],
                  g := none },
                { dst := some 12, op := SOp.call 55 [Operand.tmp 8, Operand.tmp 9, Operand.tmp 11], g := none },
                { dst := some 6, op := SOp.mov (Operand.tmp 12), g := none }]
              [[], [0], [], [], [3], [1, 2, 4, 1], [5, 5, 0, 1, 2, 3, 4, 5]]).seq
          SC.ret),
    res := [SR.tmp 6] }
theorem F43_ok : slimFn Try.prog hv Try.f43 = some F43 := by kernel_rfl
def F44 : Fn :=

  { N := 21,
    code :=
      (SC.ops false
            [{ dst := some 1, op := SOp.box 41 (Operand.tmp 0), g := none },
              { dst := some 2, op := SOp.mov (Operand.const (Value.bool false)), g := none }]).seq
        ((SC.ops false
              [{ dst := some 3, op := SOp.fld 0 (Operand.tmp 1), g := none },
                { dst := some 4, op := SOp.load1 (Operand.tmp 3), g := none },
                { dst := some 5,
                  op := SOp.bin BinOp.geq (Operand.tmp 4) (Operand.const (Value.int IntKind.i64 (Int.ofNat 1))),
                  g := none },
                { dst := some 6, op := SOp.mov (Operand.tmp 5), g := none },
                { dst := some 7, op := SOp.fld 0 (Operand.tmp 1), g := some (6, true) },
                { dst := some 8, op := SOp.load1 (Operand.tmp 7), g := some (6, true) },
                { dst := some 9,
                  op :=
                    SOp.bin BinOp.leq (Operand.tmp 8) (Operand.const (Value.int IntKind.i64 (Int.ofNat 1073741824))),
                  g := some (6, true) },
                { dst := some 10, op := SOp.pick 6 (Operand.tmp 9) (Operand.const (Value.bool false)), g := none },
                { dst := some 11, op := SOp.mov (Operand.tmp 10), g := none },
                { dst := some 12, op := SOp.fld 1 (Operand.tmp 1), g := some (11, true) },
                { dst := some 13, op := SOp.load1 (Operand.tmp 12), g := some (11, true) },
                { dst := some 14,
                  op := SOp.bin BinOp.geq (Operand.tmp 13) (Operand.const (Value.int IntKind.i64 (Int.ofNat 1))),
                  g := some (11, true) },
                { dst := some 15, op := SOp.pick 11 (Operand.tmp 14) (Operand.const (Value.bool false)), g := none },
                { dst := some 16, op := SOp.mov (Operand.tmp 15), g := none },
                { dst := some 17, op := SOp.fld 1 (Operand.tmp 1), g := some (16, true) },
                { dst := some 18, op := SOp.load1 (Operand.tmp 17), g := some (16, true) },
                { dst := some 19,
                  op := SOp.bin BinOp.leq (Operand.tmp 18) (Operand.const (Value.int IntKind.i64 (Int.ofNat 10000))),
                  g := some (16, true) },
                { dst := some 20, op := SOp.pick 16 (Operand.tmp 19) (Operand.const (Value.bool false)), g := none },
                { dst := some 2, op := SOp.mov (Operand.tmp 20), g := none }]).seq
          SC.ret),
    res := [SR.tmp 2] }
theorem F44_ok : slimFn Try.prog hv Try.f44 = some F44 := by kernel_rfl
def F45 : Fn :=

  { N := 11,
    code :=
      (SC.ops false [{ dst := some 4, op := SOp.mov (Operand.const (Value.slice none 0 0)), g := none }]).seq
        ((SC.ops false
              [{ dst := some 5, op := SOp.mov (Operand.tmp 0), g := none },
                { dst := some 6, op := SOp.call 40 [Operand.tmp 5], g := none },
                { dst := some 7, op := SOp.mov (Operand.tmp 1), g := none },
                { dst := some 8, op := SOp.mov (Operand.tmp 1), g := none },
                { dst := some 9,
                  op := SOp.bin BinOp.add (Operand.tmp 8) (Operand.const (Value.int IntKind.i64 (Int.ofNat 1))),
                  g := none },
                { dst := some 10, op := SOp.call 56 [Operand.tmp 6, Operand.tmp 7, Operand.tmp 9], g := none },
                { dst := some 4, op := SOp.mov (Operand.tmp 10), g := none }]).seq
          SC.ret),
    res := [SR.tmp 4] }
theorem F45_ok : slimFn Try.prog hv Try.f45 = some F45 := by kernel_rfl
def F46 : Fn :=

  { N := 11,
    code :=
      (SC.ops false [{ dst := some 4, op := SOp.mov (Operand.const (Value.slice none 0 0)), g := none }]).seq
        ((SC.ops false
              [{ dst := some 5, op := SOp.mov (Operand.tmp 0), g := none },
                { dst := some 6, op := SOp.call 54 [Operand.tmp 5], g := none },
                { dst := some 7, op := SOp.mov (Operand.tmp 1), g := none },
                { dst := some 8, op := SOp.mov (Operand.tmp 1), g := none },
                { dst := some 9,
                  op := SOp.bin BinOp.add (Operand.tmp 8) (Operand.const (Value.int IntKind.i64 (Int.ofNat 1))),
                  g := none },
                { dst := some 10, op := SOp.call 57 [Operand.tmp 6, Operand.tmp 7, Operand.tmp 9], g := none },
                { dst := some 4, op := SOp.mov (Operand.tmp 10), g := none }]).seq
          SC.ret),
    res := [SR.tmp 4] }
theorem F46_ok : slimFn Try.prog hv Try.f46 = some F46 := by kernel_rfl
def F48 : Fn :=

  { N := 19,
    code :=
      (SC.ops false
            [{ dst := some 4, op := SOp.mov (Operand.const (Value.int IntKind.i64 (Int.ofNat 0))), g := none }]).seq
        (((SC.ops false
                  [{ dst := some 6, op := SOp.mov (Operand.tmp 0), g := none },
                    { dst := some 7, op := SOp.len (Operand.tmp 6), g := none },
                    { dst := some 8, op := SOp.mov (Operand.const (Value.int IntKind.i64 (Int.ofNat 0))),
                      g := none }]).seq
              (SC.block 0
                ((SC.ops false
                        [{ dst := some 9, op := SOp.bin BinOp.lss (Operand.tmp 8) (Operand.tmp 7), g := none }]).seq
                    ((SC.cond (Operand.tmp 9) SC.skip (SC.exit 0)).seq
                      ((SC.block 1
                            ((SC.ops false
                                  [{ dst := some 10, op := SOp.mov (Operand.tmp 8), g := none },
                                    { dst := some 5, op := SOp.mov (Operand.tmp 10), g := none }]).seq
                              ((SC.ops false
                                    [{ dst := some 11, op := SOp.mov (Operand.tmp 1), g := none },
                                      { dst := some 12, op := SOp.mov (Operand.tmp 0), g := none },
                                      { dst := some 13, op := SOp.mov (Operand.tmp 5), g := none },
                                      { dst := some 14, op := SOp.idx 2 (Operand.tmp 12) (Operand.tmp 13), g := none },
                                      { dst := some 15, op := SOp.loadN 2 (Operand.tmp 14), g := none },
                                      { dst := some 16, op := SOp.callv (Operand.tmp 11) [Operand.tmp 15],
                                        g := none }]).seq
                                (SC.cond (Operand.tmp 16)
                                  ((SC.ops false
                                        [{ dst := some 17, op := SOp.mov (Operand.tmp 5), g := none },
                                          { dst := some 4, op := SOp.mov (Operand.tmp 17), g := none }]).seq
                                    SC.ret)
                                  SC.skip)))).seq
                        (SC.ops false
                          [{ dst := some 18,
                              op :=
                                SOp.bin BinOp.add (Operand.tmp 8) (Operand.const (Value.int IntKind.i64 (Int.ofNat 1))),
                              g := none },
                            { dst := some 8, op := SOp.mov (Operand.tmp 18), g := none }])))).loop)).seq
          ((SC.ops false
                [{ dst := some 4, op := SOp.mov (Operand.const (Value.int IntKind.i64 (Int.negSucc 0))),
                    g := none }]).seq
            SC.ret)),
    res := [SR.tmp 4] }
theorem F48_ok : slimFn Try.prog hv Try.f48 = some F48 := by kernel_rfl
def F49 : Fn :=

  { N := 8,
    code :=
      (SC.ops false
            [{ dst := some 2, op := SOp.box 41 (Operand.tmp 0), g := none },
              { dst := some 3, op := SOp.mov (Operand.const (Value.bool false)), g := none }]).seq
        ((SC.ops false
              [{ dst := some 4, op := SOp.fld 0 (Operand.tmp 2), g := none },
                { dst := some 5, op := SOp.load1 (Operand.tmp 4), g := none },
                { dst := some 6, op := SOp.load1 (Operand.tmp 1), g := none },
                { dst := some 7, op := SOp.bin BinOp.eql (Operand.tmp 5) (Operand.tmp 6), g := none },
                { dst := some 3, op := SOp.mov (Operand.tmp 7), g := none }]).seq
          SC.ret),
    res := [SR.tmp 3] }
theorem F49_ok : slimFn Try.prog hv Try.f49 = some F49 := by kernel_rfl
def F50 : Fn :=

  { N := 9,
    code :=
      (SC.ops false [{ dst := some 4, op := SOp.mov (Operand.const (Value.bool false)), g := none }]).seq
        ((SC.ops false
              [{ dst := some 5, op := SOp.mov (Operand.tmp 0), g := none },
                { dst := some 6, op := SOp.mov (Operand.tmp 1), g := none },
                { dst := some 7, op := SOp.call 48 [Operand.tmp 5, Operand.tmp 6], g := none },
                { dst := some 8,
                  op := SOp.bin BinOp.geq (Operand.tmp 7) (Operand.const (Value.int IntKind.i64 (Int.ofNat 0))),
                  g := none },
                { dst := some 4, op := SOp.mov (Operand.tmp 8), g := none }]).seq
          SC.ret),
    res := [SR.tmp 4] }
theorem F50_ok : slimFn Try.prog hv Try.f50 = some F50 := by kernel_rfl
def F51 : Fn :=

  { N := 6,
    code :=
      (SC.ops false
            [{ dst := some 1, op := SOp.box 41 (Operand.tmp 0), g := none },
              { dst := some 2, op := SOp.mov (Operand.const (Value.bool false)), g := none }]).seq
        ((SC.ops false
              [{ dst := some 3, op := SOp.loadN 2 (Operand.tmp 1), g := none },
                { dst := some 4, op := SOp.call 42 [Operand.tmp 3], g := none },
                { dst := some 5, op := SOp.un UnOp.not (Operand.tmp 4), g := none },
                { dst := some 2, op := SOp.mov (Operand.tmp 5), g := none }]).seq
          SC.ret),
    res := [SR.tmp 2] }
theorem F51_ok : slimFn Try.prog hv Try.f51 = some F51 := by kernel_rfl
def F52 : Fn :=

  { N := 19,
    code :=
      (SC.ops false
            [{ dst := some 4, op := SOp.mov (Operand.const (Value.int IntKind.i64 (Int.ofNat 0))), g := none }]).seq
        (((SC.ops false
                  [{ dst := some 6, op := SOp.mov (Operand.tmp 0), g := none },
                    { dst := some 7, op := SOp.len (Operand.tmp 6), g := none },
                    { dst := some 8, op := SOp.mov (Operand.const (Value.int IntKind.i64 (Int.ofNat 0))),
                      g := none }]).seq
              (SC.block 0
                ((SC.ops false
                        [{ dst := some 9, op := SOp.bin BinOp.lss (Operand.tmp 8) (Operand.tmp 7), g := none }]).seq
                    ((SC.cond (Operand.tmp 9) SC.skip (SC.exit 0)).seq
                      ((SC.block 1
                            ((SC.ops false
                                  [{ dst := some 10, op := SOp.mov (Operand.tmp 8), g := none },
                                    { dst := some 5, op := SOp.mov (Operand.tmp 10), g := none }]).seq
                              ((SC.ops false
                                    [{ dst := some 11, op := SOp.mov (Operand.tmp 1), g := none },
                                      { dst := some 12, op := SOp.mov (Operand.tmp 0), g := none },
                                      { dst := some 13, op := SOp.mov (Operand.tmp 5), g := none },
                                      { dst := some 14, op := SOp.idx 5 (Operand.tmp 12) (Operand.tmp 13), g := none },
                                      { dst := some 15, op := SOp.loadN 5 (Operand.tmp 14), g := none },
                                      { dst := some 16, op := SOp.callv (Operand.tmp 11) [Operand.tmp 15],
                                        g := none }]).seq
                                (SC.cond (Operand.tmp 16)
                                  ((SC.ops false
                                        [{ dst := some 17, op := SOp.mov (Operand.tmp 5), g := none },
                                          { dst := some 4, op := SOp.mov (Operand.tmp 17), g := none }]).seq
                                    SC.ret)
                                  SC.skip)))).seq
                        (SC.ops false
                          [{ dst := some 18,
                              op :=
                                SOp.bin BinOp.add (Operand.tmp 8) (Operand.const (Value.int IntKind.i64 (Int.ofNat 1))),
                              g := none },
                            { dst := some 8, op := SOp.mov (Operand.tmp 18), g := none }])))).loop)).seq
          ((SC.ops false
                [{ dst := some 4, op := SOp.mov (Operand.const (Value.int IntKind.i64 (Int.negSucc 0))),
                    g := none }]).seq
            SC.ret)),
    res := [SR.tmp 4] }
theorem F52_ok : slimFn Try.prog hv Try.f52 = some F52 := by kernel_rfl
def F53 : Fn :=

  { N := 8,
    code :=
      (SC.ops false
            [{ dst := some 2, op := SOp.box 27 (Operand.tmp 0), g := none },
              { dst := some 3, op := SOp.mov (Operand.const (Value.bool false)), g := none }]).seq
        ((SC.ops false
              [{ dst := some 4, op := SOp.fld 0 (Operand.tmp 2), g := none },
                { dst := some 5, op := SOp.load1 (Operand.tmp 4), g := none },
                { dst := some 6, op := SOp.load1 (Operand.tmp 1), g := none },
                { dst := some 7, op := SOp.bin BinOp.eql (Operand.tmp 5) (Operand.tmp 6), g := none },
                { dst := some 3, op := SOp.mov (Operand.tmp 7), g := none }]).seq
          SC.ret),
    res := [SR.tmp 3] }
theorem F53_ok : slimFn Try.prog hv Try.f53 = some F53 := by kernel_rfl
def F54 : Fn :=

  { N := 8,
    code :=
      (SC.ops false [{ dst := some 2, op := SOp.mov (Operand.const (Value.slice none 0 0)), g := none }]).seq
        (((SC.ops false
                  [{ dst := some 3, op := SOp.mov (Operand.tmp 0), g := none },
                    { dst := some 4, op := SOp.isnil false (Operand.tmp 3), g := none }]).seq
              (SC.cond (Operand.tmp 4)
                ((SC.ops false [{ dst := some 2, op := SOp.mov (Operand.const (Value.slice none 0 0)), g := none }]).seq
                  SC.ret)
                SC.skip)).seq
          ((SC.ops false
                [{ dst := some 5,
                    op :=
                      SOp.buildS 27 5 0
                        [Value.int IntKind.i64 (Int.ofNat 0), Value.int IntKind.i64 (Int.ofNat 0),
                          Value.int IntKind.i64 (Int.ofNat 0), Value.int IntKind.i64 (Int.ofNat 0),
                          Value.slice none 0 0]
                        [],
                    g := none },
                  { dst := some 6, op := SOp.mov (Operand.tmp 0), g := none },
                  { dst := some 7,
                    op :=
                      SOp.app 27 5 56
                        [Value.int IntKind.i64 (Int.ofNat 0), Value.int IntKind.i64 (Int.ofNat 0),
                          Value.int IntKind.i64 (Int.ofNat 0), Value.int IntKind.i64 (Int.ofNat 0),
                          Value.slice none 0 0]
                        (Operand.tmp 5) (Operand.tmp 6),
                    g := none },
                  { dst := some 2, op := SOp.mov (Operand.tmp 7), g := none }]).seq
            SC.ret)),
    res := [SR.tmp 2] }
theorem F54_ok : slimFn Try.prog hv Try.f54 = some F54 := by kernel_rfl
def F55 : Fn :=

  { N := 95,
    code :=
      (SC.ops false [{ dst := some 6, op := SOp.mov (Operand.const (Value.slice none 0 0)), g := none }]).seq
        ((SC.ops false
              [{ dst := some 10, op := SOp.mov (Operand.tmp 0), g := none },
                { dst := some 11, op := SOp.mov (Operand.tmp 1), g := none },
                { dst := some 12, op := SOp.slice 2 (Operand.tmp 10) (some (Operand.tmp 11)) none, g := none }]).seq
          ((SC.ops false
                [{ dst := some 13, op := SOp.mov (Operand.tmp 2), g := none },
                  { dst := some 14, op := SOp.len (Operand.tmp 13), g := none },
                  { dst := some 7, op := SOp.mov (Operand.tmp 14), g := none }]).seq
            (((SC.ops false
                      [{ dst := some 15, op := SOp.mov (Operand.tmp 7), g := none },
                        { dst := some 16,
                          op :=
                            SOp.bin BinOp.eql (Operand.tmp 15) (Operand.const (Value.int IntKind.i64 (Int.ofNat 0))),
                          g := none }]).seq
                  (SC.cond (Operand.tmp 16)
                    ((SC.ops false
                          [{ dst := some 17, op := SOp.mov (Operand.tmp 0), g := none },
                            { dst := some 6, op := SOp.mov (Operand.tmp 17), g := none }]).seq
                      SC.ret)
                    SC.skip)).seq
              ((SC.ops false
                    [{ dst := some 18, op := SOp.mov (Operand.tmp 0), g := none },
                      { dst := some 19, op := SOp.len (Operand.tmp 18), g := none },
                      { dst := some 8, op := SOp.mov (Operand.tmp 19), g := none }]).seq
                (((SC.ops false
                          [{ dst := some 20, op := SOp.mov (Operand.tmp 1), g := none },
                            { dst := some 21, op := SOp.mov (Operand.tmp 8), g := none },
                            { dst := some 22, op := SOp.bin BinOp.eql (Operand.tmp 20) (Operand.tmp 21),
                              g := none }]).seq
                      (SC.cond (Operand.tmp 22)
                        ((SC.ops false
                              [{ dst := some 23, op := SOp.mov (Operand.tmp 0), g := none },
                                { dst := some 24, op := SOp.mov (Operand.tmp 2), g := none },
                                { dst := some 25,
                                  op :=
                                    SOp.app 41 2 16
                                      [Value.int IntKind.i64 (Int.ofNat 0), Value.int IntKind.i64 (Int.ofNat 0)]
                                      (Operand.tmp 23) (Operand.tmp 24),
                                  g := none },
                                { dst := some 6, op := SOp.mov (Operand.tmp 25), g := none }]).seq
                          SC.ret)
                        SC.skip)).seq
                  (((SC.ops false
                            [{ dst := some 26, op := SOp.mov (Operand.tmp 8), g := none },
                              { dst := some 27, op := SOp.mov (Operand.tmp 7), g := none },
                              { dst := some 28, op := SOp.bin BinOp.add (Operand.tmp 26) (Operand.tmp 27), g := none },
                              { dst := some 29, op := SOp.mov (Operand.tmp 0), g := none },
                              { dst := some 30, op := SOp.cap (Operand.tmp 29), g := none },
                              { dst := some 31, op := SOp.bin BinOp.gtr (Operand.tmp 28) (Operand.tmp 30),
                                g := none }]).seq
                        (SC.cond (Operand.tmp 31)
                          ((SC.ops false
                                [{ dst := some 32, op := SOp.mov (Operand.tmp 0), g := none },
                                  { dst := some 33, op := SOp.mov (Operand.tmp 1), g := none },
                                  { dst := some 34, op := SOp.slice 2 (Operand.tmp 32) none (some (Operand.tmp 33)),
                                    g := none },
                                  { dst := some 35, op := SOp.mov (Operand.tmp 8), g := none },
                                  { dst := some 36, op := SOp.mov (Operand.tmp 7), g := none },
                                  { dst := some 37, op := SOp.bin BinOp.add (Operand.tmp 35) (Operand.tmp 36),
                                    g := none },
                                  { dst := some 38, op := SOp.mov (Operand.tmp 1), g := none },
                                  { dst := some 39, op := SOp.bin BinOp.sub (Operand.tmp 37) (Operand.tmp 38),
                                    g := none },
                                  { dst := some 40,
                                    op :=
                                      SOp.appZ 41 2 16
                                        [Value.int IntKind.i64 (Int.ofNat 0), Value.int IntKind.i64 (Int.ofNat 0)]
                                        (Operand.tmp 34) (Operand.tmp 39),
                                    g := none },
                                  { dst := some 9, op := SOp.mov (Operand.tmp 40), g := none }]).seq
                            ((SC.ops false
                                  [{ dst := some 41, op := SOp.mov (Operand.tmp 9), g := none },
                                    { dst := some 42, op := SOp.mov (Operand.tmp 1), g := none },
                                    { dst := some 43, op := SOp.slice 2 (Operand.tmp 41) (some (Operand.tmp 42)) none,
                                      g := none },
                                    { dst := some 44, op := SOp.mov (Operand.tmp 2), g := none },
                                    { dst := some 45, op := SOp.copy 2 (Operand.tmp 43) (Operand.tmp 44),
                                      g := none }]).seq
                              ((SC.opsD 8
                                    [{ dst := some 46, op := SOp.mov (Operand.tmp 9), g := none },
                                      { dst := some 47, op := SOp.mov (Operand.tmp 1), g := none },
                                      { dst := some 48, op := SOp.mov (Operand.tmp 7), g := none },
                                      { dst := some 49, op := SOp.bin BinOp.add (Operand.tmp 47) (Operand.tmp 48),
                                        g := none },
                                      { dst := some 50, op := SOp.slice 2 (Operand.tmp 46) (some (Operand.tmp 49)) none,
                                        g := none },
                                      { dst := some 51, op := SOp.mov (Operand.tmp 0), g := none },
                                      { dst := some 52, op := SOp.mov (Operand.tmp 1), g := none },
                                      { dst := some 53, op := SOp.slice 2 (Operand.tmp 51) (some (Operand.tmp 52)) none,
                                        g := none },
                                      { dst := some 54, op := SOp.copy 2 (Operand.tmp 50) (Operand.tmp 53),
                                        g := none }]).seq
                                ((SC.ops false
                                      [{ dst := some 55, op := SOp.mov (Operand.tmp 9), g := none },
                                        { dst := some 6, op := SOp.mov (Operand.tmp 55), g := none }]).seq
                                  SC.ret))))
                          SC.skip)).seq
                    ((SC.ops false
                          [{ dst := some 56, op := SOp.mov (Operand.tmp 0), g := none },
                            { dst := some 57, op := SOp.mov (Operand.tmp 8), g := none },
                            { dst := some 58, op := SOp.mov (Operand.tmp 7), g := none },
                            { dst := some 59, op := SOp.bin BinOp.add (Operand.tmp 57) (Operand.tmp 58), g := none },
                            { dst := some 60, op := SOp.slice 2 (Operand.tmp 56) none (some (Operand.tmp 59)),
                              g := none },
                            { dst := some 0, op := SOp.mov (Operand.tmp 60), g := none }]).seq
                      (((SC.ops false
                                [{ dst := some 61, op := SOp.mov (Operand.tmp 2), g := none },
                                  { dst := some 62, op := SOp.mov (Operand.tmp 0), g := none },
                                  { dst := some 63, op := SOp.mov (Operand.tmp 1), g := none },
                                  { dst := some 64, op := SOp.mov (Operand.tmp 7), g := none },
                                  { dst := some 65, op := SOp.bin BinOp.add (Operand.tmp 63) (Operand.tmp 64),
                                    g := none },
                                  { dst := some 66, op := SOp.slice 2 (Operand.tmp 62) (some (Operand.tmp 65)) none,
                                    g := none },
                                  { dst := some 67, op := SOp.ovl 60 25 (Operand.tmp 61) (Operand.tmp 66), g := none },
                                  { dst := some 68, op := SOp.un UnOp.not (Operand.tmp 67), g := none }]).seq
                            (SC.cond (Operand.tmp 68)
                              ((SC.opsD 8
                                    [{ dst := some 69, op := SOp.mov (Operand.tmp 0), g := none },
                                      { dst := some 70, op := SOp.mov (Operand.tmp 1), g := none },
                                      { dst := some 71, op := SOp.mov (Operand.tmp 7), g := none },
                                      { dst := some 72, op := SOp.bin BinOp.add (Operand.tmp 70) (Operand.tmp 71),
                                        g := none },
                                      { dst := some 73, op := SOp.slice 2 (Operand.tmp 69) (some (Operand.tmp 72)) none,
                                        g := none },
                                      { dst := some 74, op := SOp.mov (Operand.tmp 0), g := none },
                                      { dst := some 75, op := SOp.mov (Operand.tmp 1), g := none },
                                      { dst := some 76, op := SOp.slice 2 (Operand.tmp 74) (some (Operand.tmp 75)) none,
                                        g := none },
                                      { dst := some 77, op := SOp.copy 2 (Operand.tmp 73) (Operand.tmp 76),
                                        g := none }]).seq
                                ((SC.ops false
                                      [{ dst := some 78, op := SOp.mov (Operand.tmp 0), g := none },
                                        { dst := some 79, op := SOp.mov (Operand.tmp 1), g := none },
                                        { dst := some 80,
                                          op := SOp.slice 2 (Operand.tmp 78) (some (Operand.tmp 79)) none, g := none },
                                        { dst := some 81, op := SOp.mov (Operand.tmp 2), g := none },
                                        { dst := some 82, op := SOp.copy 2 (Operand.tmp 80) (Operand.tmp 81),
                                          g := none }]).seq
                                  ((SC.ops false
                                        [{ dst := some 83, op := SOp.mov (Operand.tmp 0), g := none },
                                          { dst := some 6, op := SOp.mov (Operand.tmp 83), g := none }]).seq
                                    SC.ret)))
                              SC.skip)).seq
                        ((SC.ops false
                              [{ dst := some 84, op := SOp.mov (Operand.tmp 0), g := none },
                                { dst := some 85, op := SOp.mov (Operand.tmp 8), g := none },
                                { dst := some 86, op := SOp.slice 2 (Operand.tmp 84) (some (Operand.tmp 85)) none,
                                  g := none },
                                { dst := some 87, op := SOp.mov (Operand.tmp 2), g := none },
                                { dst := some 88, op := SOp.copy 2 (Operand.tmp 86) (Operand.tmp 87), g := none }]).seq
                          ((SC.ops false
                                [{ dst := some 89, op := SOp.mov (Operand.tmp 0), g := none },
                                  { dst := some 90, op := SOp.mov (Operand.tmp 1), g := none },
                                  { dst := some 91, op := SOp.slice 2 (Operand.tmp 89) (some (Operand.tmp 90)) none,
                                    g := none },
                                  { dst := some 92, op := SOp.mov (Operand.tmp 7), g := none },
                                  { dst := some 93, op := SOp.call 61 [Operand.tmp 91, Operand.tmp 92],
                                    g := none }]).seq
                            ((SC.ops false
                                  [{ dst := some 94, op := SOp.mov (Operand.tmp 0), g := none },
                                    { dst := some 6, op := SOp.mov (Operand.tmp 94), g := none }]).seq
                              SC.ret))))))))))),
    res := [SR.tmp 6] }
theorem F55_ok : slimFn Try.prog hv Try.f55 = some F55 := by kernel_rfl
def F56 : Fn :=

  { N := 33,
    code :=
      (SC.ops false [{ dst := some 6, op := SOp.mov (Operand.const (Value.slice none 0 0)), g := none }]).seq
        ((SC.ops false
              [{ dst := some 8, op := SOp.mov (Operand.tmp 0), g := none },
                { dst := some 9, op := SOp.mov (Operand.tmp 1), g := none },
                { dst := some 10, op := SOp.mov (Operand.tmp 2), g := none },
                { dst := some 11, op := SOp.mov (Operand.tmp 0), g := none },
                { dst := some 12, op := SOp.len (Operand.tmp 11), g := none },
                { dst := some 13,
                  op := SOp.slice3 2 (Operand.tmp 8) (some (Operand.tmp 9)) (some (Operand.tmp 10)) (Operand.tmp 12),
                  g := none }]).seq
          (((SC.ops false
                    [{ dst := some 14, op := SOp.mov (Operand.tmp 1), g := none },
                      { dst := some 15, op := SOp.mov (Operand.tmp 2), g := none },
                      { dst := some 16, op := SOp.bin BinOp.eql (Operand.tmp 14) (Operand.tmp 15), g := none }]).seq
                (SC.cond (Operand.tmp 16)
                  ((SC.ops false
                        [{ dst := some 17, op := SOp.mov (Operand.tmp 0), g := none },
                          { dst := some 6, op := SOp.mov (Operand.tmp 17), g := none }]).seq
                    SC.ret)
                  SC.skip)).seq
            ((SC.ops false
                  [{ dst := some 18, op := SOp.mov (Operand.tmp 0), g := none },
                    { dst := some 19, op := SOp.len (Operand.tmp 18), g := none },
                    { dst := some 7, op := SOp.mov (Operand.tmp 19), g := none }]).seq
              ((SC.opsD 6
                    [{ dst := some 20, op := SOp.mov (Operand.tmp 0), g := none },
                      { dst := some 21, op := SOp.mov (Operand.tmp 1), g := none },
                      { dst := some 22, op := SOp.slice 2 (Operand.tmp 20) none (some (Operand.tmp 21)), g := none },
                      { dst := some 23, op := SOp.mov (Operand.tmp 0), g := none },
                      { dst := some 24, op := SOp.mov (Operand.tmp 2), g := none },
                      { dst := some 25, op := SOp.slice 2 (Operand.tmp 23) (some (Operand.tmp 24)) none, g := none },
                      { dst := some 26,
                        op :=
                          SOp.app 41 2 16 [Value.int IntKind.i64 (Int.ofNat 0), Value.int IntKind.i64 (Int.ofNat 0)]
                            (Operand.tmp 22) (Operand.tmp 25),
                        g := none },
                      { dst := some 0, op := SOp.mov (Operand.tmp 26), g := none }]).seq
                ((SC.ops false
                      [{ dst := some 27, op := SOp.mov (Operand.tmp 0), g := none },
                        { dst := some 28, op := SOp.mov (Operand.tmp 0), g := none },
                        { dst := some 29, op := SOp.len (Operand.tmp 28), g := none },
                        { dst := some 30, op := SOp.mov (Operand.tmp 7), g := none },
                        { dst := some 31,
                          op := SOp.slice 2 (Operand.tmp 27) (some (Operand.tmp 29)) (some (Operand.tmp 30)),
                          g := none },
                        { dst := none,
                          op :=
                            SOp.clear 41 2 [Value.int IntKind.i64 (Int.ofNat 0), Value.int IntKind.i64 (Int.ofNat 0)]
                              (Operand.tmp 31),
                          g := none }]).seq
                  ((SC.ops false
                        [{ dst := some 32, op := SOp.mov (Operand.tmp 0), g := none },
                          { dst := some 6, op := SOp.mov (Operand.tmp 32), g := none }]).seq
                    SC.ret)))))),
    res := [SR.tmp 6] }
theorem F56_ok : slimFn Try.prog hv Try.f56 = some F56 := by kernel_rfl
def F57 : Fn :=

  { N := 33,
    code :=
      (SC.ops false [{ dst := some 6, op := SOp.mov (Operand.const (Value.slice none 0 0)), g := none }]).seq
        ((SC.ops false
              [{ dst := some 8, op := SOp.mov (Operand.tmp 0), g := none },
                { dst := some 9, op := SOp.mov (Operand.tmp 1), g := none },
                { dst := some 10, op := SOp.mov (Operand.tmp 2), g := none },
                { dst := some 11, op := SOp.mov (Operand.tmp 0), g := none },
                { dst := some 12, op := SOp.len (Operand.tmp 11), g := none },
                { dst := some 13,
                  op := SOp.slice3 5 (Operand.tmp 8) (some (Operand.tmp 9)) (some (Operand.tmp 10)) (Operand.tmp 12),
                  g := none }]).seq
          (((SC.ops false
                    [{ dst := some 14, op := SOp.mov (Operand.tmp 1), g := none },
                      { dst := some 15, op := SOp.mov (Operand.tmp 2), g := none },
                      { dst := some 16, op := SOp.bin BinOp.eql (Operand.tmp 14) (Operand.tmp 15), g := none }]).seq
                (SC.cond (Operand.tmp 16)
                  ((SC.ops false
                        [{ dst := some 17, op := SOp.mov (Operand.tmp 0), g := none },
                          { dst := some 6, op := SOp.mov (Operand.tmp 17), g := none }]).seq
                    SC.ret)
                  SC.skip)).seq
            ((SC.ops false
                  [{ dst := some 18, op := SOp.mov (Operand.tmp 0), g := none },
                    { dst := some 19, op := SOp.len (Operand.tmp 18), g := none },
                    { dst := some 7, op := SOp.mov (Operand.tmp 19), g := none }]).seq
              ((SC.opsD 6
                    [{ dst := some 20, op := SOp.mov (Operand.tmp 0), g := none },
                      { dst := some 21, op := SOp.mov (Operand.tmp 1), g := none },
                      { dst := some 22, op := SOp.slice 5 (Operand.tmp 20) none (some (Operand.tmp 21)), g := none },
                      { dst := some 23, op := SOp.mov (Operand.tmp 0), g := none },
                      { dst := some 24, op := SOp.mov (Operand.tmp 2), g := none },
                      { dst := some 25, op := SOp.slice 5 (Operand.tmp 23) (some (Operand.tmp 24)) none, g := none },
                      { dst := some 26,
                        op :=
                          SOp.app 27 5 56
                            [Value.int IntKind.i64 (Int.ofNat 0), Value.int IntKind.i64 (Int.ofNat 0),
                              Value.int IntKind.i64 (Int.ofNat 0), Value.int IntKind.i64 (Int.ofNat 0),
                              Value.slice none 0 0]
                            (Operand.tmp 22) (Operand.tmp 25),
                        g := none },
                      { dst := some 0, op := SOp.mov (Operand.tmp 26), g := none }]).seq
                ((SC.ops false
                      [{ dst := some 27, op := SOp.mov (Operand.tmp 0), g := none },
                        { dst := some 28, op := SOp.mov (Operand.tmp 0), g := none },
                        { dst := some 29, op := SOp.len (Operand.tmp 28), g := none },
                        { dst := some 30, op := SOp.mov (Operand.tmp 7), g := none },
                        { dst := some 31,
                          op := SOp.slice 5 (Operand.tmp 27) (some (Operand.tmp 29)) (some (Operand.tmp 30)),
                          g := none },
                        { dst := none,
                          op :=
                            SOp.clear 27 5
                              [Value.int IntKind.i64 (Int.ofNat 0), Value.int IntKind.i64 (Int.ofNat 0),
                                Value.int IntKind.i64 (Int.ofNat 0), Value.int IntKind.i64 (Int.ofNat 0),
                                Value.slice none 0 0]
                              (Operand.tmp 31),
                          g := none }]).seq
                  ((SC.ops false
                        [{ dst := some 32, op := SOp.mov (Operand.tmp 0), g := none },
                          { dst := some 6, op := SOp.mov (Operand.tmp 32), g := none }]).seq
                    SC.ret)))))),
    res := [SR.tmp 6] }
theorem F57_ok : slimFn Try.prog hv Try.f57 = some F57 := by kernel_rfl
theorem mixed : Try.prog.follows .mixedOrders = true := by kernel_rfl
end Go.Sx
