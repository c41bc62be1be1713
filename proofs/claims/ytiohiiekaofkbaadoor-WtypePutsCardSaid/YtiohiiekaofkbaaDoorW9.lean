/- The walk of WtypePuts: region 9. -/
import Derived.Test.YtiohiiekaofkbaaDoorW8
namespace Go.Proofs.YtiohiiekaofkbaaDoor
set_option linter.unusedVariables false
set_option linter.unusedSimpArgs false
open Go.RowKit Go.Proofs.YtiohiiekaofkbaaDoor.PWtypePuts Go.Proofs.YtiohiiekaofkbaaDoorW.PrintWords

/- The operations of the regions that draw. -/
def hop4_9_ops : Array Oper := #[{ dst := some 140, op := Go.Op.move (Go.Operand.tmp 9), type := 4, pos := "law.go:103", after := #[], guard := none },
    { dst := some 141, op := Go.Op.move (Go.Operand.tmp 140), type := 4, pos := "law.go:103", after := #[{ on := 0, ground := Go.Ground.data }], guard := none },
    { dst := some 142, op := Go.Op.load 56 (Go.Operand.tmp 5), type := 56, pos := "law.go:103", after := #[{ on := 1, ground := Go.Ground.guard }], guard := some (1, true) },
    { dst := some 143, op := Go.Op.move (Go.Operand.tmp 12), type := 70, pos := "law.go:103", after := #[{ on := 1, ground := Go.Ground.guard }], guard := some (1, true) },
    { dst := some 144, op := Go.Op.call { callee := Go.Callee.value (Go.Operand.func 32), args := #[Go.Operand.tmp 142, Go.Operand.tmp 143], argTypes := #[56, 70] }, type := 70, pos := "law.go:103", after := #[{ on := 2, ground := Go.Ground.data }, { on := 3, ground := Go.Ground.data }, { on := 1, ground := Go.Ground.chain }, { on := 1, ground := Go.Ground.guard }], guard := some (1, true) },
    { dst := some 145, op := Go.Op.convert 70 9 (Go.Operand.tmp 144), type := 9, pos := "law.go:103", after := #[{ on := 4, ground := Go.Ground.data }, { on := 1, ground := Go.Ground.guard }], guard := some (1, true) },
    { dst := some 146, op := Go.Op.fieldAddr 53 (Go.Operand.tmp 2) 1, type := 0, pos := "law.go:103", after := #[{ on := 1, ground := Go.Ground.guard }], guard := some (1, true) },
    { dst := some 147, op := Go.Op.load 44 (Go.Operand.tmp 146), type := 44, pos := "law.go:103", after := #[{ on := 6, ground := Go.Ground.data }, { on := 1, ground := Go.Ground.guard }], guard := some (1, true) },
    { dst := some 148, op := Go.Op.call { callee := Go.Callee.value (Go.Operand.func 33), args := #[Go.Operand.tmp 147, Go.Operand.const (Go.Value.int Go.IntKind.i64 0)], argTypes := #[44, 3] }, type := 9, pos := "law.go:103", after := #[{ on := 7, ground := Go.Ground.data }, { on := 4, ground := Go.Ground.chain }, { on := 1, ground := Go.Ground.guard }], guard := some (1, true) },
    { dst := some 149, op := Go.Op.binOp Go.BinOp.add 9 (Go.Operand.const (Go.Value.string { data := #[9] })) (Go.Operand.tmp 148) 9, type := 9, pos := "law.go:103", after := #[{ on := 8, ground := Go.Ground.data }, { on := 1, ground := Go.Ground.guard }], guard := some (1, true) },
    { dst := some 150, op := Go.Op.binOp Go.BinOp.neq 9 (Go.Operand.tmp 145) (Go.Operand.tmp 149) 9, type := 4, pos := "law.go:103", after := #[{ on := 5, ground := Go.Ground.data }, { on := 9, ground := Go.Ground.data }, { on := 1, ground := Go.Ground.guard }], guard := some (1, true) },
    { dst := some 151, op := Go.Op.move (Go.Operand.tmp 150), type := 4, pos := "law.go:103", after := #[{ on := 10, ground := Go.Ground.data }, { on := 8, ground := Go.Ground.chain }, { on := 1, ground := Go.Ground.guard }], guard := some (1, true) },
    { dst := some 152, op := Go.Op.fieldAddr 56 (Go.Operand.tmp 5) 0, type := 0, pos := "law.go:103", after := #[{ on := 11, ground := Go.Ground.guard }], guard := some (11, false) },
    { dst := some 153, op := Go.Op.load 54 (Go.Operand.tmp 152), type := 54, pos := "law.go:103", after := #[{ on := 12, ground := Go.Ground.data }, { on := 11, ground := Go.Ground.guard }], guard := some (11, false) },
    { dst := some 154, op := Go.Op.call { callee := Go.Callee.value (Go.Operand.func 34), args := #[Go.Operand.const (Go.Value.slice none 0 0), Go.Operand.tmp 153], argTypes := #[70, 54] }, type := 70, pos := "law.go:103", after := #[{ on := 13, ground := Go.Ground.data }, { on := 11, ground := Go.Ground.chain }, { on := 11, ground := Go.Ground.guard }], guard := some (11, false) },
    { dst := some 155, op := Go.Op.convert 70 9 (Go.Operand.tmp 154), type := 9, pos := "law.go:103", after := #[{ on := 14, ground := Go.Ground.data }, { on := 11, ground := Go.Ground.guard }], guard := some (11, false) },
    { dst := some 156, op := Go.Op.fieldAddr 53 (Go.Operand.tmp 2) 1, type := 0, pos := "law.go:103", after := #[{ on := 11, ground := Go.Ground.guard }], guard := some (11, false) },
    { dst := some 157, op := Go.Op.fieldAddr 44 (Go.Operand.tmp 156) 0, type := 0, pos := "law.go:103", after := #[{ on := 16, ground := Go.Ground.data }, { on := 11, ground := Go.Ground.guard }], guard := some (11, false) },
    { dst := some 158, op := Go.Op.load 9 (Go.Operand.tmp 157), type := 9, pos := "law.go:103", after := #[{ on := 17, ground := Go.Ground.data }, { on := 11, ground := Go.Ground.guard }], guard := some (11, false) },
    { dst := some 159, op := Go.Op.call { callee := Go.Callee.value (Go.Operand.func 35), args := #[Go.Operand.tmp 158, Go.Operand.const (Go.Value.int Go.IntKind.i64 0)], argTypes := #[9, 3] }, type := 9, pos := "law.go:103", after := #[{ on := 18, ground := Go.Ground.data }, { on := 14, ground := Go.Ground.chain }, { on := 11, ground := Go.Ground.guard }], guard := some (11, false) },
    { dst := some 160, op := Go.Op.binOp Go.BinOp.neq 9 (Go.Operand.tmp 155) (Go.Operand.tmp 159) 9, type := 4, pos := "law.go:103", after := #[{ on := 15, ground := Go.Ground.data }, { on := 19, ground := Go.Ground.data }, { on := 11, ground := Go.Ground.guard }], guard := some (11, false) },
    { dst := some 161, op := Go.Op.pick (Go.Operand.tmp 151) (Go.Operand.const (Go.Value.bool true)) (Go.Operand.tmp 160), type := 4, pos := "law.go:103", after := #[{ on := 11, ground := Go.Ground.data }, { on := 20, ground := Go.Ground.data }, { on := 1, ground := Go.Ground.guard }], guard := some (1, true) },
    { dst := some 162, op := Go.Op.pick (Go.Operand.tmp 141) (Go.Operand.tmp 161) (Go.Operand.const (Go.Value.bool false)), type := 4, pos := "law.go:103", after := #[{ on := 1, ground := Go.Ground.data }, { on := 21, ground := Go.Ground.data }], guard := none },
    { dst := some 163, op := Go.Op.move (Go.Operand.tmp 162), type := 4, pos := "law.go:103", after := #[{ on := 22, ground := Go.Ground.data }, { on := 19, ground := Go.Ground.chain }], guard := none },
    { dst := some 164, op := Go.Op.move (Go.Operand.tmp 10), type := 4, pos := "law.go:103", after := #[{ on := 23, ground := Go.Ground.guard }], guard := some (23, false) },
    { dst := some 165, op := Go.Op.move (Go.Operand.tmp 164), type := 4, pos := "law.go:103", after := #[{ on := 24, ground := Go.Ground.data }, { on := 23, ground := Go.Ground.chain }, { on := 23, ground := Go.Ground.guard }], guard := some (23, false) },
    { dst := some 166, op := Go.Op.load 58 (Go.Operand.tmp 6), type := 58, pos := "law.go:103", after := #[{ on := 25, ground := Go.Ground.guard }], guard := some (25, true) },
    { dst := some 167, op := Go.Op.call { callee := Go.Callee.value (Go.Operand.func 36), args := #[Go.Operand.tmp 166, Go.Operand.const (Go.Value.slice none 0 0)], argTypes := #[58, 70] }, type := 70, pos := "law.go:103", after := #[{ on := 26, ground := Go.Ground.data }, { on := 25, ground := Go.Ground.chain }, { on := 25, ground := Go.Ground.guard }], guard := some (25, true) },
    { dst := some 168, op := Go.Op.convert 70 9 (Go.Operand.tmp 167), type := 9, pos := "law.go:103", after := #[{ on := 27, ground := Go.Ground.data }, { on := 25, ground := Go.Ground.guard }], guard := some (25, true) },
    { dst := some 169, op := Go.Op.fieldAddr 53 (Go.Operand.tmp 2) 2, type := 0, pos := "law.go:103", after := #[{ on := 25, ground := Go.Ground.guard }], guard := some (25, true) },
    { dst := some 170, op := Go.Op.load 47 (Go.Operand.tmp 169), type := 47, pos := "law.go:103", after := #[{ on := 29, ground := Go.Ground.data }, { on := 25, ground := Go.Ground.guard }], guard := some (25, true) },
    { dst := some 171, op := Go.Op.call { callee := Go.Callee.value (Go.Operand.func 37), args := #[Go.Operand.tmp 170, Go.Operand.const (Go.Value.int Go.IntKind.i64 0)], argTypes := #[47, 3] }, type := 9, pos := "law.go:103", after := #[{ on := 30, ground := Go.Ground.data }, { on := 27, ground := Go.Ground.chain }, { on := 25, ground := Go.Ground.guard }], guard := some (25, true) },
    { dst := some 172, op := Go.Op.binOp Go.BinOp.neq 9 (Go.Operand.tmp 168) (Go.Operand.tmp 171) 9, type := 4, pos := "law.go:103", after := #[{ on := 28, ground := Go.Ground.data }, { on := 31, ground := Go.Ground.data }, { on := 25, ground := Go.Ground.guard }], guard := some (25, true) },
    { dst := some 173, op := Go.Op.pick (Go.Operand.tmp 165) (Go.Operand.tmp 172) (Go.Operand.const (Go.Value.bool false)), type := 4, pos := "law.go:103", after := #[{ on := 25, ground := Go.Ground.data }, { on := 32, ground := Go.Ground.data }, { on := 23, ground := Go.Ground.guard }], guard := some (23, false) },
    { dst := some 174, op := Go.Op.pick (Go.Operand.tmp 163) (Go.Operand.const (Go.Value.bool true)) (Go.Operand.tmp 173), type := 4, pos := "law.go:103", after := #[{ on := 23, ground := Go.Ground.data }, { on := 33, ground := Go.Ground.data }], guard := none }]
theorem hop4_9_0 : hop4_9_ops[0]? = some { dst := some 140, op := Go.Op.move (Go.Operand.tmp 9), type := 4, pos := "law.go:103", after := #[], guard := none } := rfl
theorem hop4_9_1 : hop4_9_ops[1]? = some { dst := some 141, op := Go.Op.move (Go.Operand.tmp 140), type := 4, pos := "law.go:103", after := #[{ on := 0, ground := Go.Ground.data }], guard := none } := rfl
theorem hop4_9_2 : hop4_9_ops[2]? = some { dst := some 142, op := Go.Op.load 56 (Go.Operand.tmp 5), type := 56, pos := "law.go:103", after := #[{ on := 1, ground := Go.Ground.guard }], guard := some (1, true) } := rfl
theorem hop4_9_3 : hop4_9_ops[3]? = some { dst := some 143, op := Go.Op.move (Go.Operand.tmp 12), type := 70, pos := "law.go:103", after := #[{ on := 1, ground := Go.Ground.guard }], guard := some (1, true) } := rfl
theorem hop4_9_4 : hop4_9_ops[4]? = some { dst := some 144, op := Go.Op.call { callee := Go.Callee.value (Go.Operand.func 32), args := #[Go.Operand.tmp 142, Go.Operand.tmp 143], argTypes := #[56, 70] }, type := 70, pos := "law.go:103", after := #[{ on := 2, ground := Go.Ground.data }, { on := 3, ground := Go.Ground.data }, { on := 1, ground := Go.Ground.chain }, { on := 1, ground := Go.Ground.guard }], guard := some (1, true) } := rfl
theorem hop4_9_5 : hop4_9_ops[5]? = some { dst := some 145, op := Go.Op.convert 70 9 (Go.Operand.tmp 144), type := 9, pos := "law.go:103", after := #[{ on := 4, ground := Go.Ground.data }, { on := 1, ground := Go.Ground.guard }], guard := some (1, true) } := rfl
theorem hop4_9_6 : hop4_9_ops[6]? = some { dst := some 146, op := Go.Op.fieldAddr 53 (Go.Operand.tmp 2) 1, type := 0, pos := "law.go:103", after := #[{ on := 1, ground := Go.Ground.guard }], guard := some (1, true) } := rfl
theorem hop4_9_7 : hop4_9_ops[7]? = some { dst := some 147, op := Go.Op.load 44 (Go.Operand.tmp 146), type := 44, pos := "law.go:103", after := #[{ on := 6, ground := Go.Ground.data }, { on := 1, ground := Go.Ground.guard }], guard := some (1, true) } := rfl
theorem hop4_9_8 : hop4_9_ops[8]? = some { dst := some 148, op := Go.Op.call { callee := Go.Callee.value (Go.Operand.func 33), args := #[Go.Operand.tmp 147, Go.Operand.const (Go.Value.int Go.IntKind.i64 0)], argTypes := #[44, 3] }, type := 9, pos := "law.go:103", after := #[{ on := 7, ground := Go.Ground.data }, { on := 4, ground := Go.Ground.chain }, { on := 1, ground := Go.Ground.guard }], guard := some (1, true) } := rfl
theorem hop4_9_9 : hop4_9_ops[9]? = some { dst := some 149, op := Go.Op.binOp Go.BinOp.add 9 (Go.Operand.const (Go.Value.string { data := #[9] })) (Go.Operand.tmp 148) 9, type := 9, pos := "law.go:103", after := #[{ on := 8, ground := Go.Ground.data }, { on := 1, ground := Go.Ground.guard }], guard := some (1, true) } := rfl
theorem hop4_9_10 : hop4_9_ops[10]? = some { dst := some 150, op := Go.Op.binOp Go.BinOp.neq 9 (Go.Operand.tmp 145) (Go.Operand.tmp 149) 9, type := 4, pos := "law.go:103", after := #[{ on := 5, ground := Go.Ground.data }, { on := 9, ground := Go.Ground.data }, { on := 1, ground := Go.Ground.guard }], guard := some (1, true) } := rfl
theorem hop4_9_11 : hop4_9_ops[11]? = some { dst := some 151, op := Go.Op.move (Go.Operand.tmp 150), type := 4, pos := "law.go:103", after := #[{ on := 10, ground := Go.Ground.data }, { on := 8, ground := Go.Ground.chain }, { on := 1, ground := Go.Ground.guard }], guard := some (1, true) } := rfl
theorem hop4_9_12 : hop4_9_ops[12]? = some { dst := some 152, op := Go.Op.fieldAddr 56 (Go.Operand.tmp 5) 0, type := 0, pos := "law.go:103", after := #[{ on := 11, ground := Go.Ground.guard }], guard := some (11, false) } := rfl
theorem hop4_9_13 : hop4_9_ops[13]? = some { dst := some 153, op := Go.Op.load 54 (Go.Operand.tmp 152), type := 54, pos := "law.go:103", after := #[{ on := 12, ground := Go.Ground.data }, { on := 11, ground := Go.Ground.guard }], guard := some (11, false) } := rfl
theorem hop4_9_14 : hop4_9_ops[14]? = some { dst := some 154, op := Go.Op.call { callee := Go.Callee.value (Go.Operand.func 34), args := #[Go.Operand.const (Go.Value.slice none 0 0), Go.Operand.tmp 153], argTypes := #[70, 54] }, type := 70, pos := "law.go:103", after := #[{ on := 13, ground := Go.Ground.data }, { on := 11, ground := Go.Ground.chain }, { on := 11, ground := Go.Ground.guard }], guard := some (11, false) } := rfl
theorem hop4_9_15 : hop4_9_ops[15]? = some { dst := some 155, op := Go.Op.convert 70 9 (Go.Operand.tmp 154), type := 9, pos := "law.go:103", after := #[{ on := 14, ground := Go.Ground.data }, { on := 11, ground := Go.Ground.guard }], guard := some (11, false) } := rfl
theorem hop4_9_16 : hop4_9_ops[16]? = some { dst := some 156, op := Go.Op.fieldAddr 53 (Go.Operand.tmp 2) 1, type := 0, pos := "law.go:103", after := #[{ on := 11, ground := Go.Ground.guard }], guard := some (11, false) } := rfl
theorem hop4_9_17 : hop4_9_ops[17]? = some { dst := some 157, op := Go.Op.fieldAddr 44 (Go.Operand.tmp 156) 0, type := 0, pos := "law.go:103", after := #[{ on := 16, ground := Go.Ground.data }, { on := 11, ground := Go.Ground.guard }], guard := some (11, false) } := rfl
theorem hop4_9_18 : hop4_9_ops[18]? = some { dst := some 158, op := Go.Op.load 9 (Go.Operand.tmp 157), type := 9, pos := "law.go:103", after := #[{ on := 17, ground := Go.Ground.data }, { on := 11, ground := Go.Ground.guard }], guard := some (11, false) } := rfl
theorem hop4_9_19 : hop4_9_ops[19]? = some { dst := some 159, op := Go.Op.call { callee := Go.Callee.value (Go.Operand.func 35), args := #[Go.Operand.tmp 158, Go.Operand.const (Go.Value.int Go.IntKind.i64 0)], argTypes := #[9, 3] }, type := 9, pos := "law.go:103", after := #[{ on := 18, ground := Go.Ground.data }, { on := 14, ground := Go.Ground.chain }, { on := 11, ground := Go.Ground.guard }], guard := some (11, false) } := rfl
theorem hop4_9_20 : hop4_9_ops[20]? = some { dst := some 160, op := Go.Op.binOp Go.BinOp.neq 9 (Go.Operand.tmp 155) (Go.Operand.tmp 159) 9, type := 4, pos := "law.go:103", after := #[{ on := 15, ground := Go.Ground.data }, { on := 19, ground := Go.Ground.data }, { on := 11, ground := Go.Ground.guard }], guard := some (11, false) } := rfl
theorem hop4_9_21 : hop4_9_ops[21]? = some { dst := some 161, op := Go.Op.pick (Go.Operand.tmp 151) (Go.Operand.const (Go.Value.bool true)) (Go.Operand.tmp 160), type := 4, pos := "law.go:103", after := #[{ on := 11, ground := Go.Ground.data }, { on := 20, ground := Go.Ground.data }, { on := 1, ground := Go.Ground.guard }], guard := some (1, true) } := rfl
theorem hop4_9_22 : hop4_9_ops[22]? = some { dst := some 162, op := Go.Op.pick (Go.Operand.tmp 141) (Go.Operand.tmp 161) (Go.Operand.const (Go.Value.bool false)), type := 4, pos := "law.go:103", after := #[{ on := 1, ground := Go.Ground.data }, { on := 21, ground := Go.Ground.data }], guard := none } := rfl
theorem hop4_9_23 : hop4_9_ops[23]? = some { dst := some 163, op := Go.Op.move (Go.Operand.tmp 162), type := 4, pos := "law.go:103", after := #[{ on := 22, ground := Go.Ground.data }, { on := 19, ground := Go.Ground.chain }], guard := none } := rfl
theorem hop4_9_24 : hop4_9_ops[24]? = some { dst := some 164, op := Go.Op.move (Go.Operand.tmp 10), type := 4, pos := "law.go:103", after := #[{ on := 23, ground := Go.Ground.guard }], guard := some (23, false) } := rfl
theorem hop4_9_25 : hop4_9_ops[25]? = some { dst := some 165, op := Go.Op.move (Go.Operand.tmp 164), type := 4, pos := "law.go:103", after := #[{ on := 24, ground := Go.Ground.data }, { on := 23, ground := Go.Ground.chain }, { on := 23, ground := Go.Ground.guard }], guard := some (23, false) } := rfl
theorem hop4_9_26 : hop4_9_ops[26]? = some { dst := some 166, op := Go.Op.load 58 (Go.Operand.tmp 6), type := 58, pos := "law.go:103", after := #[{ on := 25, ground := Go.Ground.guard }], guard := some (25, true) } := rfl
theorem hop4_9_27 : hop4_9_ops[27]? = some { dst := some 167, op := Go.Op.call { callee := Go.Callee.value (Go.Operand.func 36), args := #[Go.Operand.tmp 166, Go.Operand.const (Go.Value.slice none 0 0)], argTypes := #[58, 70] }, type := 70, pos := "law.go:103", after := #[{ on := 26, ground := Go.Ground.data }, { on := 25, ground := Go.Ground.chain }, { on := 25, ground := Go.Ground.guard }], guard := some (25, true) } := rfl
theorem hop4_9_28 : hop4_9_ops[28]? = some { dst := some 168, op := Go.Op.convert 70 9 (Go.Operand.tmp 167), type := 9, pos := "law.go:103", after := #[{ on := 27, ground := Go.Ground.data }, { on := 25, ground := Go.Ground.guard }], guard := some (25, true) } := rfl
theorem hop4_9_29 : hop4_9_ops[29]? = some { dst := some 169, op := Go.Op.fieldAddr 53 (Go.Operand.tmp 2) 2, type := 0, pos := "law.go:103", after := #[{ on := 25, ground := Go.Ground.guard }], guard := some (25, true) } := rfl
theorem hop4_9_30 : hop4_9_ops[30]? = some { dst := some 170, op := Go.Op.load 47 (Go.Operand.tmp 169), type := 47, pos := "law.go:103", after := #[{ on := 29, ground := Go.Ground.data }, { on := 25, ground := Go.Ground.guard }], guard := some (25, true) } := rfl
theorem hop4_9_31 : hop4_9_ops[31]? = some { dst := some 171, op := Go.Op.call { callee := Go.Callee.value (Go.Operand.func 37), args := #[Go.Operand.tmp 170, Go.Operand.const (Go.Value.int Go.IntKind.i64 0)], argTypes := #[47, 3] }, type := 9, pos := "law.go:103", after := #[{ on := 30, ground := Go.Ground.data }, { on := 27, ground := Go.Ground.chain }, { on := 25, ground := Go.Ground.guard }], guard := some (25, true) } := rfl
theorem hop4_9_32 : hop4_9_ops[32]? = some { dst := some 172, op := Go.Op.binOp Go.BinOp.neq 9 (Go.Operand.tmp 168) (Go.Operand.tmp 171) 9, type := 4, pos := "law.go:103", after := #[{ on := 28, ground := Go.Ground.data }, { on := 31, ground := Go.Ground.data }, { on := 25, ground := Go.Ground.guard }], guard := some (25, true) } := rfl
theorem hop4_9_33 : hop4_9_ops[33]? = some { dst := some 173, op := Go.Op.pick (Go.Operand.tmp 165) (Go.Operand.tmp 172) (Go.Operand.const (Go.Value.bool false)), type := 4, pos := "law.go:103", after := #[{ on := 25, ground := Go.Ground.data }, { on := 32, ground := Go.Ground.data }, { on := 23, ground := Go.Ground.guard }], guard := some (23, false) } := rfl
theorem hop4_9_34 : hop4_9_ops[34]? = some { dst := some 174, op := Go.Op.pick (Go.Operand.tmp 163) (Go.Operand.const (Go.Value.bool true)) (Go.Operand.tmp 173), type := 4, pos := "law.go:103", after := #[{ on := 23, ground := Go.Ground.data }, { on := 33, ground := Go.Ground.data }], guard := none } := rfl

set_option maxRecDepth 100000 in
set_option maxHeartbeats 16000000 in
theorem reg9 (Q : Exit → Act → World → Prop) (X Y g5 g6 g7 g8 : Nat) (vv : Int) (p r s u : ByteArray) (lm : Bool) (la lb tv : Int) (tm : Bool) (ta tb gv : Int) (gm : Bool) (A0 A1 : Option Addr) (c0 c1 : Nat) (wb w : World) (bf bl bt : Bool) (h9 : Nat) {t0 t1 t4 t13 t14 t15 t16 t17 t18 t19 t20 t21 t22 t23 t24 t25 t26 t27 t28 t29 t30 t31 t32 t33 t34 t35 t36 t37 t38 t39 t40 t41 t42 t43 t44 t45 t46 t47 t48 t49 t50 t51 t52 t53 t54 t55 t56 t57 t58 t59 t60 t61 t62 t63 t64 t65 t66 t67 t68 t69 t70 t71 t72 t73 t74 t75 t76 t77 t78 t79 t80 t81 t82 t83 t84 t85 t86 t87 t88 t89 t90 t91 t92 t93 t94 t95 t96 t97 t98 t99 t100 t101 t102 t103 t104 t105 t106 t107 t108 t109 t110 t111 t112 t113 t114 t115 t116 t117 t118 t119 t120 t121 t122 t123 t124 t125 t126 t127 t128 t129 t130 t131 t132 t133 t134 t135 t136 t137 t138 t139 t140 t141 t142 t143 t144 t145 t146 t147 t148 t149 t150 t151 t152 t153 t154 t155 t156 t157 t158 t159 t160 t161 t162 t163 t164 t165 t166 t167 t168 t169 t170 t171 t172 t173 t174 t175 t176 t177 t178 t179 t180 t181 t182 t183 t184 t185 t186 t187 t188 t189 t190 t191 t192 t193 t194 t195 t196 t197 t198 t199 t200 t201 t202 t203 t204 : Value} (hC : wb.cell? ⟨X, 0, none⟩ = some (.int .u8 vv) ∧ wb.cell? ⟨X, 1, none⟩ = some (.string p) ∧ wb.cell? ⟨X, 2, none⟩ = some (.string r) ∧ wb.cell? ⟨X, 3, none⟩ = some (.bool lm) ∧ wb.cell? ⟨X, 4, none⟩ = some (.int .u32 la) ∧ wb.cell? ⟨X, 5, none⟩ = some (.int .u32 lb) ∧ wb.cell? ⟨X, 6, none⟩ = some (.int .u8 tv) ∧ wb.cell? ⟨X, 7, none⟩ = some (.bool tm) ∧ wb.cell? ⟨X, 8, none⟩ = some (.int .u32 ta) ∧ wb.cell? ⟨X, 9, none⟩ = some (.int .u32 tb) ∧ wb.cell? ⟨X, 10, none⟩ = some (.int .u8 gv) ∧ wb.cell? ⟨X, 11, none⟩ = some (.bool gm) ∧ wb.cell? ⟨Y, 0, none⟩ = some (.string s) ∧ wb.cell? ⟨Y, 1, none⟩ = some (.string u) ∧ wb.cell? ⟨g5, 0, none⟩ = some (.slice A0 (bytesOf p).length c0) ∧ wb.cell? ⟨g5, 1, none⟩ = some (.slice A1 (bytesOf r).length c1) ∧ wb.cell? ⟨g6, 0, none⟩ = some (.bool lm) ∧ wb.cell? ⟨g6, 1, none⟩ = some (.int .u32 la) ∧ wb.cell? ⟨g6, 2, none⟩ = some (.int .u32 lb) ∧ wb.cell? ⟨g7, 0, none⟩ = some (.int .u8 tv) ∧ wb.cell? ⟨g7, 1, none⟩ = some (.bool tm) ∧ wb.cell? ⟨g7, 2, none⟩ = some (.int .u32 ta) ∧ wb.cell? ⟨g7, 3, none⟩ = some (.int .u32 tb) ∧ wb.cell? ⟨g8, 0, none⟩ = some (.int .u8 gv) ∧ wb.cell? ⟨g8, 1, none⟩ = some (.bool gm)) (hB : Below wb.heap.size wb w) (hl0 : (bytesOf p).length ≤ c0) (hl1 : (bytesOf r).length ≤ c1) (hC0 : CV wb A0 (bytesOf p)) (hC1 : CV wb A1 (bytesOf r)) (hp : p.size ≤ 300) (hr : r.size ≤ 300) (la0 : 0 ≤ la) (la1 : la ≤ 4294967295) (lb0 : 0 ≤ lb) (lb1 : lb ≤ 4294967295) (h9w : Own w wb.heap.size (.slice (some ⟨h9, 0, none⟩) 1 1) [9])
    (hq : ∀ (s140 s141 s142 s143 s144 s145 s146 s147 s148 s149 s150 s151 s152 s153 s154 s155 s156 s157 s158 s159 s160 s161 s162 s163 s164 s165 s166 s167 s168 s169 s170 s171 s172 s173 : Value) (W : World), Below wb.heap.size wb W → Q .normal ({ tmps := #[t0, t1, .pointer (some ⟨X, 0, none⟩), .pointer (some ⟨Y, 0, none⟩), t4, .pointer (some ⟨g5, 0, none⟩), .pointer (some ⟨g6, 0, none⟩), .pointer (some ⟨g7, 0, none⟩), .pointer (some ⟨g8, 0, none⟩), .bool bf, .bool bl, .bool bt, .slice (some ⟨h9, 0, none⟩) 1 1, t13, t14, t15, t16, t17, t18, t19, t20, t21, t22, t23, t24, t25, t26, t27, t28, t29, t30, t31, t32, t33, t34, t35, t36, t37, t38, t39, t40, t41, t42, t43, t44, t45, t46, t47, t48, t49, t50, t51, t52, t53, t54, t55, t56, t57, t58, t59, t60, t61, t62, t63, t64, t65, t66, t67, t68, t69, t70, t71, t72, t73, t74, t75, t76, t77, t78, t79, t80, t81, t82, t83, t84, t85, t86, t87, t88, t89, t90, t91, t92, t93, t94, t95, t96, t97, t98, t99, t100, t101, t102, t103, t104, t105, t106, t107, t108, t109, t110, t111, t112, t113, t114, t115, t116, t117, t118, t119, t120, t121, t122, t123, t124, t125, t126, t127, t128, t129, t130, t131, t132, t133, t134, t135, t136, t137, t138, t139, s140, s141, s142, s143, s144, s145, s146, s147, s148, s149, s150, s151, s152, s153, s154, s155, s156, s157, s158, s159, s160, s161, s162, s163, s164, s165, s166, s167, s168, s169, s170, s171, s172, s173, .bool false, t175, t176, t177, t178, t179, t180, t181, t182, t183, t184, t185, t186, t187, t188, t189, t190, t191, t192, t193, t194, t195, t196, t197, t198, t199, t200, t201, t202, t203, t204], defers := [] } : Act) W) :
    (Code.region 9 #[{ dst := some 140, op := Go.Op.move (Go.Operand.tmp 9), type := 4, pos := "law.go:103", after := #[], guard := none },
    { dst := some 141, op := Go.Op.move (Go.Operand.tmp 140), type := 4, pos := "law.go:103", after := #[{ on := 0, ground := Go.Ground.data }], guard := none },
    { dst := some 142, op := Go.Op.load 56 (Go.Operand.tmp 5), type := 56, pos := "law.go:103", after := #[{ on := 1, ground := Go.Ground.guard }], guard := some (1, true) },
    { dst := some 143, op := Go.Op.move (Go.Operand.tmp 12), type := 70, pos := "law.go:103", after := #[{ on := 1, ground := Go.Ground.guard }], guard := some (1, true) },
    { dst := some 144, op := Go.Op.call { callee := Go.Callee.value (Go.Operand.func 32), args := #[Go.Operand.tmp 142, Go.Operand.tmp 143], argTypes := #[56, 70] }, type := 70, pos := "law.go:103", after := #[{ on := 2, ground := Go.Ground.data }, { on := 3, ground := Go.Ground.data }, { on := 1, ground := Go.Ground.chain }, { on := 1, ground := Go.Ground.guard }], guard := some (1, true) },
    { dst := some 145, op := Go.Op.convert 70 9 (Go.Operand.tmp 144), type := 9, pos := "law.go:103", after := #[{ on := 4, ground := Go.Ground.data }, { on := 1, ground := Go.Ground.guard }], guard := some (1, true) },
    { dst := some 146, op := Go.Op.fieldAddr 53 (Go.Operand.tmp 2) 1, type := 0, pos := "law.go:103", after := #[{ on := 1, ground := Go.Ground.guard }], guard := some (1, true) },
    { dst := some 147, op := Go.Op.load 44 (Go.Operand.tmp 146), type := 44, pos := "law.go:103", after := #[{ on := 6, ground := Go.Ground.data }, { on := 1, ground := Go.Ground.guard }], guard := some (1, true) },
    { dst := some 148, op := Go.Op.call { callee := Go.Callee.value (Go.Operand.func 33), args := #[Go.Operand.tmp 147, Go.Operand.const (Go.Value.int Go.IntKind.i64 0)], argTypes := #[44, 3] }, type := 9, pos := "law.go:103", after := #[{ on := 7, ground := Go.Ground.data }, { on := 4, ground := Go.Ground.chain }, { on := 1, ground := Go.Ground.guard }], guard := some (1, true) },
    { dst := some 149, op := Go.Op.binOp Go.BinOp.add 9 (Go.Operand.const (Go.Value.string { data := #[9] })) (Go.Operand.tmp 148) 9, type := 9, pos := "law.go:103", after := #[{ on := 8, ground := Go.Ground.data }, { on := 1, ground := Go.Ground.guard }], guard := some (1, true) },
    { dst := some 150, op := Go.Op.binOp Go.BinOp.neq 9 (Go.Operand.tmp 145) (Go.Operand.tmp 149) 9, type := 4, pos := "law.go:103", after := #[{ on := 5, ground := Go.Ground.data }, { on := 9, ground := Go.Ground.data }, { on := 1, ground := Go.Ground.guard }], guard := some (1, true) },
    { dst := some 151, op := Go.Op.move (Go.Operand.tmp 150), type := 4, pos := "law.go:103", after := #[{ on := 10, ground := Go.Ground.data }, { on := 8, ground := Go.Ground.chain }, { on := 1, ground := Go.Ground.guard }], guard := some (1, true) },
    { dst := some 152, op := Go.Op.fieldAddr 56 (Go.Operand.tmp 5) 0, type := 0, pos := "law.go:103", after := #[{ on := 11, ground := Go.Ground.guard }], guard := some (11, false) },
    { dst := some 153, op := Go.Op.load 54 (Go.Operand.tmp 152), type := 54, pos := "law.go:103", after := #[{ on := 12, ground := Go.Ground.data }, { on := 11, ground := Go.Ground.guard }], guard := some (11, false) },
    { dst := some 154, op := Go.Op.call { callee := Go.Callee.value (Go.Operand.func 34), args := #[Go.Operand.const (Go.Value.slice none 0 0), Go.Operand.tmp 153], argTypes := #[70, 54] }, type := 70, pos := "law.go:103", after := #[{ on := 13, ground := Go.Ground.data }, { on := 11, ground := Go.Ground.chain }, { on := 11, ground := Go.Ground.guard }], guard := some (11, false) },
    { dst := some 155, op := Go.Op.convert 70 9 (Go.Operand.tmp 154), type := 9, pos := "law.go:103", after := #[{ on := 14, ground := Go.Ground.data }, { on := 11, ground := Go.Ground.guard }], guard := some (11, false) },
    { dst := some 156, op := Go.Op.fieldAddr 53 (Go.Operand.tmp 2) 1, type := 0, pos := "law.go:103", after := #[{ on := 11, ground := Go.Ground.guard }], guard := some (11, false) },
    { dst := some 157, op := Go.Op.fieldAddr 44 (Go.Operand.tmp 156) 0, type := 0, pos := "law.go:103", after := #[{ on := 16, ground := Go.Ground.data }, { on := 11, ground := Go.Ground.guard }], guard := some (11, false) },
    { dst := some 158, op := Go.Op.load 9 (Go.Operand.tmp 157), type := 9, pos := "law.go:103", after := #[{ on := 17, ground := Go.Ground.data }, { on := 11, ground := Go.Ground.guard }], guard := some (11, false) },
    { dst := some 159, op := Go.Op.call { callee := Go.Callee.value (Go.Operand.func 35), args := #[Go.Operand.tmp 158, Go.Operand.const (Go.Value.int Go.IntKind.i64 0)], argTypes := #[9, 3] }, type := 9, pos := "law.go:103", after := #[{ on := 18, ground := Go.Ground.data }, { on := 14, ground := Go.Ground.chain }, { on := 11, ground := Go.Ground.guard }], guard := some (11, false) },
    { dst := some 160, op := Go.Op.binOp Go.BinOp.neq 9 (Go.Operand.tmp 155) (Go.Operand.tmp 159) 9, type := 4, pos := "law.go:103", after := #[{ on := 15, ground := Go.Ground.data }, { on := 19, ground := Go.Ground.data }, { on := 11, ground := Go.Ground.guard }], guard := some (11, false) },
    { dst := some 161, op := Go.Op.pick (Go.Operand.tmp 151) (Go.Operand.const (Go.Value.bool true)) (Go.Operand.tmp 160), type := 4, pos := "law.go:103", after := #[{ on := 11, ground := Go.Ground.data }, { on := 20, ground := Go.Ground.data }, { on := 1, ground := Go.Ground.guard }], guard := some (1, true) },
    { dst := some 162, op := Go.Op.pick (Go.Operand.tmp 141) (Go.Operand.tmp 161) (Go.Operand.const (Go.Value.bool false)), type := 4, pos := "law.go:103", after := #[{ on := 1, ground := Go.Ground.data }, { on := 21, ground := Go.Ground.data }], guard := none },
    { dst := some 163, op := Go.Op.move (Go.Operand.tmp 162), type := 4, pos := "law.go:103", after := #[{ on := 22, ground := Go.Ground.data }, { on := 19, ground := Go.Ground.chain }], guard := none },
    { dst := some 164, op := Go.Op.move (Go.Operand.tmp 10), type := 4, pos := "law.go:103", after := #[{ on := 23, ground := Go.Ground.guard }], guard := some (23, false) },
    { dst := some 165, op := Go.Op.move (Go.Operand.tmp 164), type := 4, pos := "law.go:103", after := #[{ on := 24, ground := Go.Ground.data }, { on := 23, ground := Go.Ground.chain }, { on := 23, ground := Go.Ground.guard }], guard := some (23, false) },
    { dst := some 166, op := Go.Op.load 58 (Go.Operand.tmp 6), type := 58, pos := "law.go:103", after := #[{ on := 25, ground := Go.Ground.guard }], guard := some (25, true) },
    { dst := some 167, op := Go.Op.call { callee := Go.Callee.value (Go.Operand.func 36), args := #[Go.Operand.tmp 166, Go.Operand.const (Go.Value.slice none 0 0)], argTypes := #[58, 70] }, type := 70, pos := "law.go:103", after := #[{ on := 26, ground := Go.Ground.data }, { on := 25, ground := Go.Ground.chain }, { on := 25, ground := Go.Ground.guard }], guard := some (25, true) },
    { dst := some 168, op := Go.Op.convert 70 9 (Go.Operand.tmp 167), type := 9, pos := "law.go:103", after := #[{ on := 27, ground := Go.Ground.data }, { on := 25, ground := Go.Ground.guard }], guard := some (25, true) },
    { dst := some 169, op := Go.Op.fieldAddr 53 (Go.Operand.tmp 2) 2, type := 0, pos := "law.go:103", after := #[{ on := 25, ground := Go.Ground.guard }], guard := some (25, true) },
    { dst := some 170, op := Go.Op.load 47 (Go.Operand.tmp 169), type := 47, pos := "law.go:103", after := #[{ on := 29, ground := Go.Ground.data }, { on := 25, ground := Go.Ground.guard }], guard := some (25, true) },
    { dst := some 171, op := Go.Op.call { callee := Go.Callee.value (Go.Operand.func 37), args := #[Go.Operand.tmp 170, Go.Operand.const (Go.Value.int Go.IntKind.i64 0)], argTypes := #[47, 3] }, type := 9, pos := "law.go:103", after := #[{ on := 30, ground := Go.Ground.data }, { on := 27, ground := Go.Ground.chain }, { on := 25, ground := Go.Ground.guard }], guard := some (25, true) },
    { dst := some 172, op := Go.Op.binOp Go.BinOp.neq 9 (Go.Operand.tmp 168) (Go.Operand.tmp 171) 9, type := 4, pos := "law.go:103", after := #[{ on := 28, ground := Go.Ground.data }, { on := 31, ground := Go.Ground.data }, { on := 25, ground := Go.Ground.guard }], guard := some (25, true) },
    { dst := some 173, op := Go.Op.pick (Go.Operand.tmp 165) (Go.Operand.tmp 172) (Go.Operand.const (Go.Value.bool false)), type := 4, pos := "law.go:103", after := #[{ on := 25, ground := Go.Ground.data }, { on := 32, ground := Go.Ground.data }, { on := 23, ground := Go.Ground.guard }], guard := some (23, false) },
    { dst := some 174, op := Go.Op.pick (Go.Operand.tmp 163) (Go.Operand.const (Go.Value.bool true)) (Go.Operand.tmp 173), type := 4, pos := "law.go:103", after := #[{ on := 23, ground := Go.Ground.data }, { on := 33, ground := Go.Ground.data }], guard := none }] true).wp Tryd.prog Q ({ tmps := #[t0, t1, .pointer (some ⟨X, 0, none⟩), .pointer (some ⟨Y, 0, none⟩), t4, .pointer (some ⟨g5, 0, none⟩), .pointer (some ⟨g6, 0, none⟩), .pointer (some ⟨g7, 0, none⟩), .pointer (some ⟨g8, 0, none⟩), .bool bf, .bool bl, .bool bt, .slice (some ⟨h9, 0, none⟩) 1 1, t13, t14, t15, t16, t17, t18, t19, t20, t21, t22, t23, t24, t25, t26, t27, t28, t29, t30, t31, t32, t33, t34, t35, t36, t37, t38, t39, t40, t41, t42, t43, t44, t45, t46, t47, t48, t49, t50, t51, t52, t53, t54, t55, t56, t57, t58, t59, t60, t61, t62, t63, t64, t65, t66, t67, t68, t69, t70, t71, t72, t73, t74, t75, t76, t77, t78, t79, t80, t81, t82, t83, t84, t85, t86, t87, t88, t89, t90, t91, t92, t93, t94, t95, t96, t97, t98, t99, t100, t101, t102, t103, t104, t105, t106, t107, t108, t109, t110, t111, t112, t113, t114, t115, t116, t117, t118, t119, t120, t121, t122, t123, t124, t125, t126, t127, t128, t129, t130, t131, t132, t133, t134, t135, t136, t137, t138, t139, t140, t141, t142, t143, t144, t145, t146, t147, t148, t149, t150, t151, t152, t153, t154, t155, t156, t157, t158, t159, t160, t161, t162, t163, t164, t165, t166, t167, t168, t169, t170, t171, t172, t173, t174, t175, t176, t177, t178, t179, t180, t181, t182, t183, t184, t185, t186, t187, t188, t189, t190, t191, t192, t193, t194, t195, t196, t197, t198, t199, t200, t201, t202, t203, t204], defers := [] } : Act) w := by
  have HC := hid hC
  have HB := hid hB
  have HQ := hid hq
  have H9 := hid h9w
  have l0 : (bytesOf p).length ≤ 300 := by rw [bytesOf_length]; exact hp
  have l1 : (bytesOf r).length ≤ 300 := by rw [bytesOf_length]; exact hr
  obtain ⟨S1, hS1⟩ : ∃ S1, strOfNums (funcM p r 0) = S1 := ⟨_, rfl⟩
  have hz1 : S1.size ≤ 2000 := by
    rw [← hS1, str_size]
    have q1 := valsM_len p (m := 0) (by omega) (by omega)
    have q2 := valsM_len r (m := 0) (by omega) (by omega)
    rw [funcM, List.length_append, List.length_append]; simp; omega
  have hE1 : strOfNums ([9] ++ funcB (bytesOf p) (bytesOf r)) = (⟨#[9]⟩ : ByteArray) ++ S1 := by
    rw [← hS1, funcM_zero p r (by omega) (by omega), ← str_app]; rfl
  obtain ⟨S2, hS2⟩ : ∃ S2, strOfNums (valsM p 0) = S2 := ⟨_, rfl⟩
  have hE2 : strOfNums (uvB (bytesOf p)) = S2 := by rw [← hS2, valsM_zero p (by omega)]
  obtain ⟨S3, hS3⟩ : ∃ S3, strOfNums (limM lm la lb 0) = S3 := ⟨_, rfl⟩
  have hE3 : strOfNums (lputB lm la lb) = S3 := by rw [← hS3, limM_zero lm la0 la1 lb0 lb1]
  have HE1 := hid hE1
  have HE2 := hid hE2
  have HE3 := hid hE3
  have HR1 := hid (fun W (h : Below wb.heap.size wb W) (ho : Own W wb.heap.size (.slice (some ⟨h9, 0, none⟩) 1 1) [9]) => fput_ahead A0 A1 c0 c1 (bytesOf p) (bytesOf r) wb W h9 hC0 hl0 hC1 hl1 (by omega) (by omega) h ho)
  have HR2 := hid (fun W => rputFunc_walk p r W 0 (by omega) (by omega) (by omega) (by omega))
  rw [hS1] at HR2
  have HR3 := hid (fun W (h : Below wb.heap.size wb W) => pvals_walk A0 c0 (bytesOf p) W (Kd.C_below hC0 h) hl0 (by omega))
  have HR4 := hid (fun W => rputVals_walk p W 0 (by omega) (by omega) (by omega))
  rw [hS2] at HR4
  have HR5 := hid (fun W => lput_walk lm la lb W la0 la1 lb0 lb1)
  have HR6 := hid (fun W => rputLim_walk lm la lb W 0 la0 la1 lb0 lb1 (by omega) (by omega))
  rw [hS3] at HR6
  clear hC hB hq hC0 hC1 hS1 hS2 hS3 hE1 hE2 hE3 l0 l1 hl0 hl1 h9w
  have hu0 := Tryd.underlying53
  have hu1 := Tryd.underlying56
  have hu2 := Tryd.underlying58
  have hu3 := Tryd.underlying62
  have hu4 := Tryd.underlying65
  have hu5 := Tryd.underlying44
  cases bf with
  | true =>
    cases bl with
    | true =>
      refine wp_region_noPanic ?_
      refine wp_region_held_drew (S := (fun W => Below wb.heap.size wb W ∧ W.cell? ⟨X, 0, none⟩ = some (.int .u8 vv) ∧ W.cell? ⟨X, 1, none⟩ = some (.string p) ∧ W.cell? ⟨X, 2, none⟩ = some (.string r) ∧ W.cell? ⟨X, 3, none⟩ = some (.bool lm) ∧ W.cell? ⟨X, 4, none⟩ = some (.int .u32 la) ∧ W.cell? ⟨X, 5, none⟩ = some (.int .u32 lb) ∧ W.cell? ⟨X, 6, none⟩ = some (.int .u8 tv) ∧ W.cell? ⟨X, 7, none⟩ = some (.bool tm) ∧ W.cell? ⟨X, 8, none⟩ = some (.int .u32 ta) ∧ W.cell? ⟨X, 9, none⟩ = some (.int .u32 tb) ∧ W.cell? ⟨X, 10, none⟩ = some (.int .u8 gv) ∧ W.cell? ⟨X, 11, none⟩ = some (.bool gm) ∧ W.cell? ⟨Y, 0, none⟩ = some (.string s) ∧ W.cell? ⟨Y, 1, none⟩ = some (.string u) ∧ W.cell? ⟨g5, 0, none⟩ = some (.slice A0 (bytesOf p).length c0) ∧ W.cell? ⟨g5, 1, none⟩ = some (.slice A1 (bytesOf r).length c1) ∧ W.cell? ⟨g6, 0, none⟩ = some (.bool lm) ∧ W.cell? ⟨g6, 1, none⟩ = some (.int .u32 la) ∧ W.cell? ⟨g6, 2, none⟩ = some (.int .u32 lb) ∧ W.cell? ⟨g7, 0, none⟩ = some (.int .u8 tv) ∧ W.cell? ⟨g7, 1, none⟩ = some (.bool tm) ∧ W.cell? ⟨g7, 2, none⟩ = some (.int .u32 ta) ∧ W.cell? ⟨g7, 3, none⟩ = some (.int .u32 tb) ∧ W.cell? ⟨g8, 0, none⟩ = some (.int .u8 gv) ∧ W.cell? ⟨g8, 1, none⟩ = some (.bool gm))) (by kernel_rfl) ?hSatt1 (fun hHeld => ?goatt1)
      case hSatt1 => exact keepS HC.out HB.out.drew
      refine wpAnyH_take (i := 0) (v := ?_) hop4_9_0 (by kernel_rfl) (by kernel_rfl) (by kernel_rfl) (fun _ _ _ h => h) (Or.inl ⟨by rfl, ?hyatt2⟩) (by assumption) ?restatt2
      case hyatt2 => (intro w hSw; (try dsimp only at hSw); go_simp; first | (with_reducible rfl) | (rw [if_neg (by omega)]) | skip)
      simp only [Act.put, List.setIfInBounds_toArray, List.set_cons_zero, List.set_cons_succ]
      refine wpAnyH_take (i := 1) (v := ?_) hop4_9_1 (by kernel_rfl) (by kernel_rfl) (by kernel_rfl) (fun _ _ _ h => h) (Or.inl ⟨by rfl, ?hyatt3⟩) (by assumption) ?restatt3
      case hyatt3 => (intro w hSw; (try dsimp only at hSw); go_simp; first | (with_reducible rfl) | (rw [if_neg (by omega)]) | skip)
      simp only [Act.put, List.setIfInBounds_toArray, List.set_cons_zero, List.set_cons_succ]
      refine wpAnyH_take (i := 2) (v := ?_) hop4_9_2 (by kernel_rfl) (by kernel_rfl) (by kernel_rfl) (fun _ _ _ h => h) (Or.inl ⟨by rfl, ?hyatt4⟩) (by assumption) ?restatt4
      case hyatt4 => (intro w hSw; (try dsimp only at hSw); go_simp; first | (with_reducible rfl) | (rw [if_neg (by omega)]) | skip)
      simp only [Act.put, List.setIfInBounds_toArray, List.set_cons_zero, List.set_cons_succ]
      refine wpAnyH_take (i := 3) (v := ?_) hop4_9_3 (by kernel_rfl) (by kernel_rfl) (by kernel_rfl) (fun _ _ _ h => h) (Or.inl ⟨by rfl, ?hyatt5⟩) (by assumption) ?restatt5
      case hyatt5 => (intro w hSw; (try dsimp only at hSw); go_simp; first | (with_reducible rfl) | (rw [if_neg (by omega)]) | skip)
      simp only [Act.put, List.setIfInBounds_toArray, List.set_cons_zero, List.set_cons_succ]
      refine wpAnyH_take (i := 6) (v := ?_) hop4_9_6 (by kernel_rfl) (by kernel_rfl) (by kernel_rfl) (fun _ _ _ h => h) (Or.inl ⟨by rfl, ?hyatt6⟩) (by assumption) ?restatt6
      case hyatt6 => (intro w hSw; (try dsimp only at hSw); go_simp; first | (with_reducible rfl) | (rw [if_neg (by omega)]) | skip)
      simp only [Act.put, List.setIfInBounds_toArray, List.set_cons_zero, List.set_cons_succ]
      refine wpAnyH_take (i := 7) (v := ?_) hop4_9_7 (by kernel_rfl) (by kernel_rfl) (by kernel_rfl) (fun _ _ _ h => h) (Or.inl ⟨by rfl, ?hyatt7⟩) (by assumption) ?restatt7
      case hyatt7 => (intro w hSw; (try dsimp only at hSw); go_simp; first | (with_reducible rfl) | (rw [if_neg (by omega)]) | skip)
      simp only [Act.put, List.setIfInBounds_toArray, List.set_cons_zero, List.set_cons_succ]
      refine wpAnyH_ready (rs := [4]) (by kernel_rfl) (by simp) ?_
      refine AllReadyH.cons hop4_9_4 (fun K hK => ?_) AllReadyH.nil
      go_simp
      go_at_call 32; (with_reducible refine (HR1.out _ hHeld.1 (own_below H9.out (Below.drew (Below.refl _ _)))).mono ?_); rintro e w1 ⟨v1, rfl, ho, hb1⟩; have HO := ho; clear ho
      refine hK.out _ _ ?_ (fun hHeld => ?_)
      · (try dsimp only); exact keepS HC.out hb1
      clear hK K
      try simp only [Act.put, List.setIfInBounds_toArray, List.set_cons_zero, List.set_cons_succ]
      refine wpAnyH_ready (rs := [5, 8]) (by kernel_rfl) (by simp) ?_
      refine AllReadyH.cons hop4_9_5 (fun K hK => ?_) ?_
      · have hcv := own_convE HO.out HE1.out
        go_simp
        refine hK.out _ _ ?_ (fun hHeld => ?_)
        · (try dsimp only); exact hHeld
        clear hK K
        try simp only [Act.put, List.setIfInBounds_toArray, List.set_cons_zero, List.set_cons_succ]
        refine wpAnyH_ready (rs := [8]) (by kernel_rfl) (by simp) ?_
        refine AllReadyH.cons hop4_9_8 (fun K hK => ?_) AllReadyH.nil
        go_simp
        go_at_call 33; (with_reducible refine (HR2.out _).mono ?_); rintro e w1 ⟨rfl, hb1⟩; (try have HO := hid (own_below HO.out hb1))
        refine hK.out _ _ ?_ (fun hHeld => ?_)
        · (try dsimp only); exact keepS HC.out (hHeld.1.trans (hb1.mono hHeld.1.size))
        clear hK K
        try simp only [Act.put, List.setIfInBounds_toArray, List.set_cons_zero, List.set_cons_succ]
        refine wpAnyH_take (i := 9) (v := ?_) hop4_9_9 (by kernel_rfl) (by kernel_rfl) (by kernel_rfl) (fun _ _ _ h => h) (Or.inl ⟨by rfl, ?hyatt8⟩) (by assumption) ?restatt8
        case hyatt8 => (intro w hSw; (try dsimp only at hSw); go_simp; first | (with_reducible rfl) | (rw [if_neg (by omega)]) | skip)
        simp only [Act.put, List.setIfInBounds_toArray, List.set_cons_zero, List.set_cons_succ]
        refine wpAnyH_take (i := 10) (v := ?_) hop4_9_10 (by kernel_rfl) (by kernel_rfl) (by kernel_rfl) (fun _ _ _ h => h) (Or.inl ⟨by rfl, ?hyatt9⟩) (by assumption) ?restatt9
        case hyatt9 => (intro w hSw; (try dsimp only at hSw); go_simp; first | (with_reducible rfl) | (rw [if_neg (by omega)]) | skip)
        simp only [Act.put, List.setIfInBounds_toArray, List.set_cons_zero, List.set_cons_succ]
        refine wpAnyH_take (i := 11) (v := ?_) hop4_9_11 (by kernel_rfl) (by kernel_rfl) (by kernel_rfl) (fun _ _ _ h => h) (Or.inl ⟨by rfl, ?hyatt10⟩) (by assumption) ?restatt10
        case hyatt10 => (intro w hSw; (try dsimp only at hSw); go_simp; first | (with_reducible rfl) | (rw [if_neg (by omega)]) | skip)
        simp only [Act.put, List.setIfInBounds_toArray, List.set_cons_zero, List.set_cons_succ]
        refine wpAnyH_take (i := 12) (v := ?_) hop4_9_12 (by kernel_rfl) (by kernel_rfl) (by kernel_rfl) (fun _ _ _ h => h) (Or.inl ⟨by rfl, ?hyatt11⟩) (by assumption) ?restatt11
        case hyatt11 => (intro w hSw; (try dsimp only at hSw); go_simp; first | (with_reducible rfl) | (rw [if_neg (by omega)]) | skip)
        simp only [Act.put, List.setIfInBounds_toArray, List.set_cons_zero, List.set_cons_succ]
        refine wpAnyH_take (i := 13) (v := ?_) hop4_9_13 (by kernel_rfl) (by kernel_rfl) (by kernel_rfl) (fun _ _ _ h => h) (Or.inl ⟨by rfl, ?hyatt12⟩) (by assumption) ?restatt12
        case hyatt12 => (intro w hSw; (try dsimp only at hSw); go_simp; first | (with_reducible rfl) | (rw [if_neg (by omega)]) | skip)
        simp only [Act.put, List.setIfInBounds_toArray, List.set_cons_zero, List.set_cons_succ]
        refine wpAnyH_take (i := 16) (v := ?_) hop4_9_16 (by kernel_rfl) (by kernel_rfl) (by kernel_rfl) (fun _ _ _ h => h) (Or.inl ⟨by rfl, ?hyatt13⟩) (by assumption) ?restatt13
        case hyatt13 => (intro w hSw; (try dsimp only at hSw); go_simp; first | (with_reducible rfl) | (rw [if_neg (by omega)]) | skip)
        simp only [Act.put, List.setIfInBounds_toArray, List.set_cons_zero, List.set_cons_succ]
        refine wpAnyH_take (i := 17) (v := ?_) hop4_9_17 (by kernel_rfl) (by kernel_rfl) (by kernel_rfl) (fun _ _ _ h => h) (Or.inl ⟨by rfl, ?hyatt14⟩) (by assumption) ?restatt14
        case hyatt14 => (intro w hSw; (try dsimp only at hSw); go_simp; first | (with_reducible rfl) | (rw [if_neg (by omega)]) | skip)
        simp only [Act.put, List.setIfInBounds_toArray, List.set_cons_zero, List.set_cons_succ]
        refine wpAnyH_take (i := 18) (v := ?_) hop4_9_18 (by kernel_rfl) (by kernel_rfl) (by kernel_rfl) (fun _ _ _ h => h) (Or.inl ⟨by rfl, ?hyatt15⟩) (by assumption) ?restatt15
        case hyatt15 => (intro w hSw; (try dsimp only at hSw); go_simp; first | (with_reducible rfl) | (rw [if_neg (by omega)]) | skip)
        simp only [Act.put, List.setIfInBounds_toArray, List.set_cons_zero, List.set_cons_succ]
        refine wpAnyH_ready (rs := [14]) (by kernel_rfl) (by simp) ?_
        refine AllReadyH.cons hop4_9_14 (fun K hK => ?_) AllReadyH.nil
        go_simp
        go_at_call 34; (with_reducible refine (HR3.out _ hHeld.1).mono ?_); rintro e w1 ⟨v2, rfl, ho, hb1⟩; have HO := ho; clear ho
        refine hK.out _ _ ?_ (fun hHeld => ?_)
        · (try dsimp only); exact keepS HC.out (hHeld.1.trans (hb1.mono hHeld.1.size))
        clear hK K
        try simp only [Act.put, List.setIfInBounds_toArray, List.set_cons_zero, List.set_cons_succ]
        refine wpAnyH_ready (rs := [15, 19]) (by kernel_rfl) (by simp) ?_
        refine AllReadyH.cons hop4_9_15 (fun K hK => ?_) ?_
        · have hcv := own_convE HO.out HE2.out
          go_simp
          refine hK.out _ _ ?_ (fun hHeld => ?_)
          · (try dsimp only); exact hHeld
          clear hK K
          try simp only [Act.put, List.setIfInBounds_toArray, List.set_cons_zero, List.set_cons_succ]
          refine wpAnyH_ready (rs := [19]) (by kernel_rfl) (by simp) ?_
          refine AllReadyH.cons hop4_9_19 (fun K hK => ?_) AllReadyH.nil
          go_simp
          go_at_call 35; (with_reducible refine (HR4.out _).mono ?_); rintro e w1 ⟨rfl, hb1⟩; (try have HO := hid (own_below HO.out hb1))
          refine hK.out _ _ ?_ (fun hHeld => ?_)
          · (try dsimp only); exact keepS HC.out (hHeld.1.trans (hb1.mono hHeld.1.size))
          clear hK K
          try simp only [Act.put, List.setIfInBounds_toArray, List.set_cons_zero, List.set_cons_succ]
          refine wpAnyH_take (i := 20) (v := ?_) hop4_9_20 (by kernel_rfl) (by kernel_rfl) (by kernel_rfl) (fun _ _ _ h => h) (Or.inl ⟨by rfl, ?hyatt16⟩) (by assumption) ?restatt16
          case hyatt16 => (intro w hSw; (try dsimp only at hSw); go_simp; first | (with_reducible rfl) | (rw [if_neg (by omega)]) | skip)
          simp only [Act.put, List.setIfInBounds_toArray, List.set_cons_zero, List.set_cons_succ]
          refine wpAnyH_take (i := 21) (v := ?_) hop4_9_21 (by kernel_rfl) (by kernel_rfl) (by kernel_rfl) (fun _ _ _ h => h) (Or.inl ⟨by rfl, ?hyatt17⟩) (by assumption) ?restatt17
          case hyatt17 => (intro w hSw; (try dsimp only at hSw); go_simp; first | (with_reducible rfl) | (rw [if_neg (by omega)]) | skip)
          simp only [Act.put, List.setIfInBounds_toArray, List.set_cons_zero, List.set_cons_succ]
          refine wpAnyH_take (i := 22) (v := ?_) hop4_9_22 (by kernel_rfl) (by kernel_rfl) (by kernel_rfl) (fun _ _ _ h => h) (Or.inl ⟨by rfl, ?hyatt18⟩) (by assumption) ?restatt18
          case hyatt18 => (intro w hSw; (try dsimp only at hSw); go_simp; first | (with_reducible rfl) | (rw [if_neg (by omega)]) | skip)
          simp only [Act.put, List.setIfInBounds_toArray, List.set_cons_zero, List.set_cons_succ]
          refine wpAnyH_take (i := 23) (v := ?_) hop4_9_23 (by kernel_rfl) (by kernel_rfl) (by kernel_rfl) (fun _ _ _ h => h) (Or.inl ⟨by rfl, ?hyatt19⟩) (by assumption) ?restatt19
          case hyatt19 => (intro w hSw; (try dsimp only at hSw); go_simp; first | (with_reducible rfl) | (rw [if_neg (by omega)]) | skip)
          simp only [Act.put, List.setIfInBounds_toArray, List.set_cons_zero, List.set_cons_succ]
          refine wpAnyH_take (i := 24) (v := ?_) hop4_9_24 (by kernel_rfl) (by kernel_rfl) (by kernel_rfl) (fun _ _ _ h => h) (Or.inl ⟨by rfl, ?hyatt20⟩) (by assumption) ?restatt20
          case hyatt20 => (intro w hSw; (try dsimp only at hSw); go_simp; first | (with_reducible rfl) | (rw [if_neg (by omega)]) | skip)
          simp only [Act.put, List.setIfInBounds_toArray, List.set_cons_zero, List.set_cons_succ]
          refine wpAnyH_take (i := 25) (v := ?_) hop4_9_25 (by kernel_rfl) (by kernel_rfl) (by kernel_rfl) (fun _ _ _ h => h) (Or.inl ⟨by rfl, ?hyatt21⟩) (by assumption) ?restatt21
          case hyatt21 => (intro w hSw; (try dsimp only at hSw); go_simp; first | (with_reducible rfl) | (rw [if_neg (by omega)]) | skip)
          simp only [Act.put, List.setIfInBounds_toArray, List.set_cons_zero, List.set_cons_succ]
          refine wpAnyH_take (i := 26) (v := ?_) hop4_9_26 (by kernel_rfl) (by kernel_rfl) (by kernel_rfl) (fun _ _ _ h => h) (Or.inl ⟨by rfl, ?hyatt22⟩) (by assumption) ?restatt22
          case hyatt22 => (intro w hSw; (try dsimp only at hSw); go_simp; first | (with_reducible rfl) | (rw [if_neg (by omega)]) | skip)
          simp only [Act.put, List.setIfInBounds_toArray, List.set_cons_zero, List.set_cons_succ]
          refine wpAnyH_take (i := 29) (v := ?_) hop4_9_29 (by kernel_rfl) (by kernel_rfl) (by kernel_rfl) (fun _ _ _ h => h) (Or.inl ⟨by rfl, ?hyatt23⟩) (by assumption) ?restatt23
          case hyatt23 => (intro w hSw; (try dsimp only at hSw); go_simp; first | (with_reducible rfl) | (rw [if_neg (by omega)]) | skip)
          simp only [Act.put, List.setIfInBounds_toArray, List.set_cons_zero, List.set_cons_succ]
          refine wpAnyH_take (i := 30) (v := ?_) hop4_9_30 (by kernel_rfl) (by kernel_rfl) (by kernel_rfl) (fun _ _ _ h => h) (Or.inl ⟨by rfl, ?hyatt24⟩) (by assumption) ?restatt24
          case hyatt24 => (intro w hSw; (try dsimp only at hSw); go_simp; first | (with_reducible rfl) | (rw [if_neg (by omega)]) | skip)
          simp only [Act.put, List.setIfInBounds_toArray, List.set_cons_zero, List.set_cons_succ]
          refine wpAnyH_ready (rs := [27]) (by kernel_rfl) (by simp) ?_
          refine AllReadyH.cons hop4_9_27 (fun K hK => ?_) AllReadyH.nil
          go_simp
          go_at_call 36; (with_reducible refine (HR5.out _).mono ?_); rintro e w1 ⟨v3, rfl, ho, hb1⟩; have HO := ho; clear ho
          refine hK.out _ _ ?_ (fun hHeld => ?_)
          · (try dsimp only); exact keepS HC.out (hHeld.1.trans (hb1.mono hHeld.1.size))
          clear hK K
          try simp only [Act.put, List.setIfInBounds_toArray, List.set_cons_zero, List.set_cons_succ]
          refine wpAnyH_ready (rs := [28, 31]) (by kernel_rfl) (by simp) ?_
          refine AllReadyH.cons hop4_9_28 (fun K hK => ?_) ?_
          · have hcv := own_convE HO.out HE3.out
            go_simp
            refine hK.out _ _ ?_ (fun hHeld => ?_)
            · (try dsimp only); exact hHeld
            clear hK K
            try simp only [Act.put, List.setIfInBounds_toArray, List.set_cons_zero, List.set_cons_succ]
            refine wpAnyH_ready (rs := [31]) (by kernel_rfl) (by simp) ?_
            refine AllReadyH.cons hop4_9_31 (fun K hK => ?_) AllReadyH.nil
            go_simp
            go_at_call 37; (with_reducible refine (HR6.out _).mono ?_); rintro e w1 ⟨rfl, hb1⟩; (try have HO := hid (own_below HO.out hb1))
            refine hK.out _ _ ?_ (fun hHeld => ?_)
            · (try dsimp only); exact keepS HC.out (hHeld.1.trans (hb1.mono hHeld.1.size))
            clear hK K
            try simp only [Act.put, List.setIfInBounds_toArray, List.set_cons_zero, List.set_cons_succ]
            refine wpAnyH_take (i := 32) (v := ?_) hop4_9_32 (by kernel_rfl) (by kernel_rfl) (by kernel_rfl) (fun _ _ _ h => h) (Or.inl ⟨by rfl, ?hyatt25⟩) (by assumption) ?restatt25
            case hyatt25 => (intro w hSw; (try dsimp only at hSw); go_simp; first | (with_reducible rfl) | (rw [if_neg (by omega)]) | skip)
            simp only [Act.put, List.setIfInBounds_toArray, List.set_cons_zero, List.set_cons_succ]
            refine wpAnyH_take (i := 33) (v := ?_) hop4_9_33 (by kernel_rfl) (by kernel_rfl) (by kernel_rfl) (fun _ _ _ h => h) (Or.inl ⟨by rfl, ?hyatt26⟩) (by assumption) ?restatt26
            case hyatt26 => (intro w hSw; (try dsimp only at hSw); go_simp; first | (with_reducible rfl) | (rw [if_neg (by omega)]) | skip)
            simp only [Act.put, List.setIfInBounds_toArray, List.set_cons_zero, List.set_cons_succ]
            refine wpAnyH_take (i := 34) (v := ?_) hop4_9_34 (by kernel_rfl) (by kernel_rfl) (by kernel_rfl) (fun _ _ _ h => h) (Or.inl ⟨by rfl, ?hyatt27⟩) (by assumption) ?restatt27
            case hyatt27 => (intro w hSw; (try dsimp only at hSw); go_simp; first | (with_reducible rfl) | (rw [if_neg (by omega)]) | skip)
            simp only [Act.put, List.setIfInBounds_toArray, List.set_cons_zero, List.set_cons_succ]
            refine wpAnyH_done (by kernel_rfl) ?_ _
            refine NoPanic.normal ?_
            exact HQ.out _ _ _ _ _ _ _ _ _ _ _ _ _ _ _ _ _ _ _ _ _ _ _ _ _ _ _ _ _ _ _ _ _ _ _ hHeld.1
          refine AllReadyH.cons hop4_9_31 (fun K hK => ?_) ?_
          · go_simp
            go_at_call 37; (with_reducible refine (HR6.out _).mono ?_); rintro e w1 ⟨rfl, hb1⟩; (try have HO := hid (own_below HO.out hb1))
            refine hK.out _ _ ?_ (fun hHeld => ?_)
            · (try dsimp only); exact keepS HC.out (hHeld.1.trans (hb1.mono hHeld.1.size))
            clear hK K
            try simp only [Act.put, List.setIfInBounds_toArray, List.set_cons_zero, List.set_cons_succ]
            refine wpAnyH_ready (rs := [28]) (by kernel_rfl) (by simp) ?_
            refine AllReadyH.cons hop4_9_28 (fun K hK => ?_) AllReadyH.nil
            have hcv := own_convE HO.out HE3.out
            go_simp
            refine hK.out _ _ ?_ (fun hHeld => ?_)
            · (try dsimp only); exact hHeld
            clear hK K
            try simp only [Act.put, List.setIfInBounds_toArray, List.set_cons_zero, List.set_cons_succ]
            refine wpAnyH_take (i := 32) (v := ?_) hop4_9_32 (by kernel_rfl) (by kernel_rfl) (by kernel_rfl) (fun _ _ _ h => h) (Or.inl ⟨by rfl, ?hyatt28⟩) (by assumption) ?restatt28
            case hyatt28 => (intro w hSw; (try dsimp only at hSw); go_simp; first | (with_reducible rfl) | (rw [if_neg (by omega)]) | skip)
            simp only [Act.put, List.setIfInBounds_toArray, List.set_cons_zero, List.set_cons_succ]
            refine wpAnyH_take (i := 33) (v := ?_) hop4_9_33 (by kernel_rfl) (by kernel_rfl) (by kernel_rfl) (fun _ _ _ h => h) (Or.inl ⟨by rfl, ?hyatt29⟩) (by assumption) ?restatt29
            case hyatt29 => (intro w hSw; (try dsimp only at hSw); go_simp; first | (with_reducible rfl) | (rw [if_neg (by omega)]) | skip)
            simp only [Act.put, List.setIfInBounds_toArray, List.set_cons_zero, List.set_cons_succ]
            refine wpAnyH_take (i := 34) (v := ?_) hop4_9_34 (by kernel_rfl) (by kernel_rfl) (by kernel_rfl) (fun _ _ _ h => h) (Or.inl ⟨by rfl, ?hyatt30⟩) (by assumption) ?restatt30
            case hyatt30 => (intro w hSw; (try dsimp only at hSw); go_simp; first | (with_reducible rfl) | (rw [if_neg (by omega)]) | skip)
            simp only [Act.put, List.setIfInBounds_toArray, List.set_cons_zero, List.set_cons_succ]
            refine wpAnyH_done (by kernel_rfl) ?_ _
            refine NoPanic.normal ?_
            exact HQ.out _ _ _ _ _ _ _ _ _ _ _ _ _ _ _ _ _ _ _ _ _ _ _ _ _ _ _ _ _ _ _ _ _ _ _ hHeld.1
          exact AllReadyH.nil
        refine AllReadyH.cons hop4_9_19 (fun K hK => ?_) ?_
        · go_simp
          go_at_call 35; (with_reducible refine (HR4.out _).mono ?_); rintro e w1 ⟨rfl, hb1⟩; (try have HO := hid (own_below HO.out hb1))
          refine hK.out _ _ ?_ (fun hHeld => ?_)
          · (try dsimp only); exact keepS HC.out (hHeld.1.trans (hb1.mono hHeld.1.size))
          clear hK K
          try simp only [Act.put, List.setIfInBounds_toArray, List.set_cons_zero, List.set_cons_succ]
          refine wpAnyH_ready (rs := [15]) (by kernel_rfl) (by simp) ?_
          refine AllReadyH.cons hop4_9_15 (fun K hK => ?_) AllReadyH.nil
          have hcv := own_convE HO.out HE2.out
          go_simp
          refine hK.out _ _ ?_ (fun hHeld => ?_)
          · (try dsimp only); exact hHeld
          clear hK K
          try simp only [Act.put, List.setIfInBounds_toArray, List.set_cons_zero, List.set_cons_succ]
          refine wpAnyH_take (i := 20) (v := ?_) hop4_9_20 (by kernel_rfl) (by kernel_rfl) (by kernel_rfl) (fun _ _ _ h => h) (Or.inl ⟨by rfl, ?hyatt31⟩) (by assumption) ?restatt31
          case hyatt31 => (intro w hSw; (try dsimp only at hSw); go_simp; first | (with_reducible rfl) | (rw [if_neg (by omega)]) | skip)
          simp only [Act.put, List.setIfInBounds_toArray, List.set_cons_zero, List.set_cons_succ]
          refine wpAnyH_take (i := 21) (v := ?_) hop4_9_21 (by kernel_rfl) (by kernel_rfl) (by kernel_rfl) (fun _ _ _ h => h) (Or.inl ⟨by rfl, ?hyatt32⟩) (by assumption) ?restatt32
          case hyatt32 => (intro w hSw; (try dsimp only at hSw); go_simp; first | (with_reducible rfl) | (rw [if_neg (by omega)]) | skip)
          simp only [Act.put, List.setIfInBounds_toArray, List.set_cons_zero, List.set_cons_succ]
          refine wpAnyH_take (i := 22) (v := ?_) hop4_9_22 (by kernel_rfl) (by kernel_rfl) (by kernel_rfl) (fun _ _ _ h => h) (Or.inl ⟨by rfl, ?hyatt33⟩) (by assumption) ?restatt33
          case hyatt33 => (intro w hSw; (try dsimp only at hSw); go_simp; first | (with_reducible rfl) | (rw [if_neg (by omega)]) | skip)
          simp only [Act.put, List.setIfInBounds_toArray, List.set_cons_zero, List.set_cons_succ]
          refine wpAnyH_take (i := 23) (v := ?_) hop4_9_23 (by kernel_rfl) (by kernel_rfl) (by kernel_rfl) (fun _ _ _ h => h) (Or.inl ⟨by rfl, ?hyatt34⟩) (by assumption) ?restatt34
          case hyatt34 => (intro w hSw; (try dsimp only at hSw); go_simp; first | (with_reducible rfl) | (rw [if_neg (by omega)]) | skip)
          simp only [Act.put, List.setIfInBounds_toArray, List.set_cons_zero, List.set_cons_succ]
          refine wpAnyH_take (i := 24) (v := ?_) hop4_9_24 (by kernel_rfl) (by kernel_rfl) (by kernel_rfl) (fun _ _ _ h => h) (Or.inl ⟨by rfl, ?hyatt35⟩) (by assumption) ?restatt35
          case hyatt35 => (intro w hSw; (try dsimp only at hSw); go_simp; first | (with_reducible rfl) | (rw [if_neg (by omega)]) | skip)
          simp only [Act.put, List.setIfInBounds_toArray, List.set_cons_zero, List.set_cons_succ]
          refine wpAnyH_take (i := 25) (v := ?_) hop4_9_25 (by kernel_rfl) (by kernel_rfl) (by kernel_rfl) (fun _ _ _ h => h) (Or.inl ⟨by rfl, ?hyatt36⟩) (by assumption) ?restatt36
          case hyatt36 => (intro w hSw; (try dsimp only at hSw); go_simp; first | (with_reducible rfl) | (rw [if_neg (by omega)]) | skip)
          simp only [Act.put, List.setIfInBounds_toArray, List.set_cons_zero, List.set_cons_succ]
          refine wpAnyH_take (i := 26) (v := ?_) hop4_9_26 (by kernel_rfl) (by kernel_rfl) (by kernel_rfl) (fun _ _ _ h => h) (Or.inl ⟨by rfl, ?hyatt37⟩) (by assumption) ?restatt37
          case hyatt37 => (intro w hSw; (try dsimp only at hSw); go_simp; first | (with_reducible rfl) | (rw [if_neg (by omega)]) | skip)
          simp only [Act.put, List.setIfInBounds_toArray, List.set_cons_zero, List.set_cons_succ]
          refine wpAnyH_take (i := 29) (v := ?_) hop4_9_29 (by kernel_rfl) (by kernel_rfl) (by kernel_rfl) (fun _ _ _ h => h) (Or.inl ⟨by rfl, ?hyatt38⟩) (by assumption) ?restatt38
          case hyatt38 => (intro w hSw; (try dsimp only at hSw); go_simp; first | (with_reducible rfl) | (rw [if_neg (by omega)]) | skip)
          simp only [Act.put, List.setIfInBounds_toArray, List.set_cons_zero, List.set_cons_succ]
          refine wpAnyH_take (i := 30) (v := ?_) hop4_9_30 (by kernel_rfl) (by kernel_rfl) (by kernel_rfl) (fun _ _ _ h => h) (Or.inl ⟨by rfl, ?hyatt39⟩) (by assumption) ?restatt39
          case hyatt39 => (intro w hSw; (try dsimp only at hSw); go_simp; first | (with_reducible rfl) | (rw [if_neg (by omega)]) | skip)
          simp only [Act.put, List.setIfInBounds_toArray, List.set_cons_zero, List.set_cons_succ]
          refine wpAnyH_ready (rs := [27]) (by kernel_rfl) (by simp) ?_
          refine AllReadyH.cons hop4_9_27 (fun K hK => ?_) AllReadyH.nil
          go_simp
          go_at_call 36; (with_reducible refine (HR5.out _).mono ?_); rintro e w1 ⟨v3, rfl, ho, hb1⟩; have HO := ho; clear ho
          refine hK.out _ _ ?_ (fun hHeld => ?_)
          · (try dsimp only); exact keepS HC.out (hHeld.1.trans (hb1.mono hHeld.1.size))
          clear hK K
          try simp only [Act.put, List.setIfInBounds_toArray, List.set_cons_zero, List.set_cons_succ]
          refine wpAnyH_ready (rs := [28, 31]) (by kernel_rfl) (by simp) ?_
          refine AllReadyH.cons hop4_9_28 (fun K hK => ?_) ?_
          · have hcv := own_convE HO.out HE3.out
            go_simp
            refine hK.out _ _ ?_ (fun hHeld => ?_)
            · (try dsimp only); exact hHeld
            clear hK K
            try simp only [Act.put, List.setIfInBounds_toArray, List.set_cons_zero, List.set_cons_succ]
            refine wpAnyH_ready (rs := [31]) (by kernel_rfl) (by simp) ?_
            refine AllReadyH.cons hop4_9_31 (fun K hK => ?_) AllReadyH.nil
            go_simp
            go_at_call 37; (with_reducible refine (HR6.out _).mono ?_); rintro e w1 ⟨rfl, hb1⟩; (try have HO := hid (own_below HO.out hb1))
            refine hK.out _ _ ?_ (fun hHeld => ?_)
            · (try dsimp only); exact keepS HC.out (hHeld.1.trans (hb1.mono hHeld.1.size))
            clear hK K
            try simp only [Act.put, List.setIfInBounds_toArray, List.set_cons_zero, List.set_cons_succ]
            refine wpAnyH_take (i := 32) (v := ?_) hop4_9_32 (by kernel_rfl) (by kernel_rfl) (by kernel_rfl) (fun _ _ _ h => h) (Or.inl ⟨by rfl, ?hyatt40⟩) (by assumption) ?restatt40
            case hyatt40 => (intro w hSw; (try dsimp only at hSw); go_simp; first | (with_reducible rfl) | (rw [if_neg (by omega)]) | skip)
            simp only [Act.put, List.setIfInBounds_toArray, List.set_cons_zero, List.set_cons_succ]
            refine wpAnyH_take (i := 33) (v := ?_) hop4_9_33 (by kernel_rfl) (by kernel_rfl) (by kernel_rfl) (fun _ _ _ h => h) (Or.inl ⟨by rfl, ?hyatt41⟩) (by assumption) ?restatt41
            case hyatt41 => (intro w hSw; (try dsimp only at hSw); go_simp; first | (with_reducible rfl) | (rw [if_neg (by omega)]) | skip)
            simp only [Act.put, List.setIfInBounds_toArray, List.set_cons_zero, List.set_cons_succ]
            refine wpAnyH_take (i := 34) (v := ?_) hop4_9_34 (by kernel_rfl) (by kernel_rfl) (by kernel_rfl) (fun _ _ _ h => h) (Or.inl ⟨by rfl, ?hyatt42⟩) (by assumption) ?restatt42
            case hyatt42 => (intro w hSw; (try dsimp only at hSw); go_simp; first | (with_reducible rfl) | (rw [if_neg (by omega)]) | skip)
            simp only [Act.put, List.setIfInBounds_toArray, List.set_cons_zero, List.set_cons_succ]
            refine wpAnyH_done (by kernel_rfl) ?_ _
            refine NoPanic.normal ?_
            exact HQ.out _ _ _ _ _ _ _ _ _ _ _ _ _ _ _ _ _ _ _ _ _ _ _ _ _ _ _ _ _ _ _ _ _ _ _ hHeld.1
          refine AllReadyH.cons hop4_9_31 (fun K hK => ?_) ?_
          · go_simp
            go_at_call 37; (with_reducible refine (HR6.out _).mono ?_); rintro e w1 ⟨rfl, hb1⟩; (try have HO := hid (own_below HO.out hb1))
            refine hK.out _ _ ?_ (fun hHeld => ?_)
            · (try dsimp only); exact keepS HC.out (hHeld.1.trans (hb1.mono hHeld.1.size))
            clear hK K
            try simp only [Act.put, List.setIfInBounds_toArray, List.set_cons_zero, List.set_cons_succ]
            refine wpAnyH_ready (rs := [28]) (by kernel_rfl) (by simp) ?_
            refine AllReadyH.cons hop4_9_28 (fun K hK => ?_) AllReadyH.nil
            have hcv := own_convE HO.out HE3.out
            go_simp
            refine hK.out _ _ ?_ (fun hHeld => ?_)
            · (try dsimp only); exact hHeld
            clear hK K
            try simp only [Act.put, List.setIfInBounds_toArray, List.set_cons_zero, List.set_cons_succ]
            refine wpAnyH_take (i := 32) (v := ?_) hop4_9_32 (by kernel_rfl) (by kernel_rfl) (by kernel_rfl) (fun _ _ _ h => h) (Or.inl ⟨by rfl, ?hyatt43⟩) (by assumption) ?restatt43
            case hyatt43 => (intro w hSw; (try dsimp only at hSw); go_simp; first | (with_reducible rfl) | (rw [if_neg (by omega)]) | skip)
            simp only [Act.put, List.setIfInBounds_toArray, List.set_cons_zero, List.set_cons_succ]
            refine wpAnyH_take (i := 33) (v := ?_) hop4_9_33 (by kernel_rfl) (by kernel_rfl) (by kernel_rfl) (fun _ _ _ h => h) (Or.inl ⟨by rfl, ?hyatt44⟩) (by assumption) ?restatt44
            case hyatt44 => (intro w hSw; (try dsimp only at hSw); go_simp; first | (with_reducible rfl) | (rw [if_neg (by omega)]) | skip)
            simp only [Act.put, List.setIfInBounds_toArray, List.set_cons_zero, List.set_cons_succ]
            refine wpAnyH_take (i := 34) (v := ?_) hop4_9_34 (by kernel_rfl) (by kernel_rfl) (by kernel_rfl) (fun _ _ _ h => h) (Or.inl ⟨by rfl, ?hyatt45⟩) (by assumption) ?restatt45
            case hyatt45 => (intro w hSw; (try dsimp only at hSw); go_simp; first | (with_reducible rfl) | (rw [if_neg (by omega)]) | skip)
            simp only [Act.put, List.setIfInBounds_toArray, List.set_cons_zero, List.set_cons_succ]
            refine wpAnyH_done (by kernel_rfl) ?_ _
            refine NoPanic.normal ?_
            exact HQ.out _ _ _ _ _ _ _ _ _ _ _ _ _ _ _ _ _ _ _ _ _ _ _ _ _ _ _ _ _ _ _ _ _ _ _ hHeld.1
          exact AllReadyH.nil
        exact AllReadyH.nil
      refine AllReadyH.cons hop4_9_8 (fun K hK => ?_) ?_
      · go_simp
        go_at_call 33; (with_reducible refine (HR2.out _).mono ?_); rintro e w1 ⟨rfl, hb1⟩; (try have HO := hid (own_below HO.out hb1))
        refine hK.out _ _ ?_ (fun hHeld => ?_)
        · (try dsimp only); exact keepS HC.out (hHeld.1.trans (hb1.mono hHeld.1.size))
        clear hK K
        try simp only [Act.put, List.setIfInBounds_toArray, List.set_cons_zero, List.set_cons_succ]
        refine wpAnyH_take (i := 9) (v := ?_) hop4_9_9 (by kernel_rfl) (by kernel_rfl) (by kernel_rfl) (fun _ _ _ h => h) (Or.inl ⟨by rfl, ?hyatt46⟩) (by assumption) ?restatt46
        case hyatt46 => (intro w hSw; (try dsimp only at hSw); go_simp; first | (with_reducible rfl) | (rw [if_neg (by omega)]) | skip)
        simp only [Act.put, List.setIfInBounds_toArray, List.set_cons_zero, List.set_cons_succ]
        refine wpAnyH_ready (rs := [5]) (by kernel_rfl) (by simp) ?_
        refine AllReadyH.cons hop4_9_5 (fun K hK => ?_) AllReadyH.nil
        have hcv := own_convE HO.out HE1.out
        go_simp
        refine hK.out _ _ ?_ (fun hHeld => ?_)
        · (try dsimp only); exact hHeld
        clear hK K
        try simp only [Act.put, List.setIfInBounds_toArray, List.set_cons_zero, List.set_cons_succ]
        refine wpAnyH_take (i := 10) (v := ?_) hop4_9_10 (by kernel_rfl) (by kernel_rfl) (by kernel_rfl) (fun _ _ _ h => h) (Or.inl ⟨by rfl, ?hyatt47⟩) (by assumption) ?restatt47
        case hyatt47 => (intro w hSw; (try dsimp only at hSw); go_simp; first | (with_reducible rfl) | (rw [if_neg (by omega)]) | skip)
        simp only [Act.put, List.setIfInBounds_toArray, List.set_cons_zero, List.set_cons_succ]
        refine wpAnyH_take (i := 11) (v := ?_) hop4_9_11 (by kernel_rfl) (by kernel_rfl) (by kernel_rfl) (fun _ _ _ h => h) (Or.inl ⟨by rfl, ?hyatt48⟩) (by assumption) ?restatt48
        case hyatt48 => (intro w hSw; (try dsimp only at hSw); go_simp; first | (with_reducible rfl) | (rw [if_neg (by omega)]) | skip)
        simp only [Act.put, List.setIfInBounds_toArray, List.set_cons_zero, List.set_cons_succ]
        refine wpAnyH_take (i := 12) (v := ?_) hop4_9_12 (by kernel_rfl) (by kernel_rfl) (by kernel_rfl) (fun _ _ _ h => h) (Or.inl ⟨by rfl, ?hyatt49⟩) (by assumption) ?restatt49
        case hyatt49 => (intro w hSw; (try dsimp only at hSw); go_simp; first | (with_reducible rfl) | (rw [if_neg (by omega)]) | skip)
        simp only [Act.put, List.setIfInBounds_toArray, List.set_cons_zero, List.set_cons_succ]
        refine wpAnyH_take (i := 13) (v := ?_) hop4_9_13 (by kernel_rfl) (by kernel_rfl) (by kernel_rfl) (fun _ _ _ h => h) (Or.inl ⟨by rfl, ?hyatt50⟩) (by assumption) ?restatt50
        case hyatt50 => (intro w hSw; (try dsimp only at hSw); go_simp; first | (with_reducible rfl) | (rw [if_neg (by omega)]) | skip)
        simp only [Act.put, List.setIfInBounds_toArray, List.set_cons_zero, List.set_cons_succ]
        refine wpAnyH_take (i := 16) (v := ?_) hop4_9_16 (by kernel_rfl) (by kernel_rfl) (by kernel_rfl) (fun _ _ _ h => h) (Or.inl ⟨by rfl, ?hyatt51⟩) (by assumption) ?restatt51
        case hyatt51 => (intro w hSw; (try dsimp only at hSw); go_simp; first | (with_reducible rfl) | (rw [if_neg (by omega)]) | skip)
        simp only [Act.put, List.setIfInBounds_toArray, List.set_cons_zero, List.set_cons_succ]
        refine wpAnyH_take (i := 17) (v := ?_) hop4_9_17 (by kernel_rfl) (by kernel_rfl) (by kernel_rfl) (fun _ _ _ h => h) (Or.inl ⟨by rfl, ?hyatt52⟩) (by assumption) ?restatt52
        case hyatt52 => (intro w hSw; (try dsimp only at hSw); go_simp; first | (with_reducible rfl) | (rw [if_neg (by omega)]) | skip)
        simp only [Act.put, List.setIfInBounds_toArray, List.set_cons_zero, List.set_cons_succ]
        refine wpAnyH_take (i := 18) (v := ?_) hop4_9_18 (by kernel_rfl) (by kernel_rfl) (by kernel_rfl) (fun _ _ _ h => h) (Or.inl ⟨by rfl, ?hyatt53⟩) (by assumption) ?restatt53
        case hyatt53 => (intro w hSw; (try dsimp only at hSw); go_simp; first | (with_reducible rfl) | (rw [if_neg (by omega)]) | skip)
        simp only [Act.put, List.setIfInBounds_toArray, List.set_cons_zero, List.set_cons_succ]
        refine wpAnyH_ready (rs := [14]) (by kernel_rfl) (by simp) ?_
        refine AllReadyH.cons hop4_9_14 (fun K hK => ?_) AllReadyH.nil
        go_simp
        go_at_call 34; (with_reducible refine (HR3.out _ hHeld.1).mono ?_); rintro e w1 ⟨v2, rfl, ho, hb1⟩; have HO := ho; clear ho
        refine hK.out _ _ ?_ (fun hHeld => ?_)
        · (try dsimp only); exact keepS HC.out (hHeld.1.trans (hb1.mono hHeld.1.size))
        clear hK K
        try simp only [Act.put, List.setIfInBounds_toArray, List.set_cons_zero, List.set_cons_succ]
        refine wpAnyH_ready (rs := [15, 19]) (by kernel_rfl) (by simp) ?_
        refine AllReadyH.cons hop4_9_15 (fun K hK => ?_) ?_
        · have hcv := own_convE HO.out HE2.out
          go_simp
          refine hK.out _ _ ?_ (fun hHeld => ?_)
          · (try dsimp only); exact hHeld
          clear hK K
          try simp only [Act.put, List.setIfInBounds_toArray, List.set_cons_zero, List.set_cons_succ]
          refine wpAnyH_ready (rs := [19]) (by kernel_rfl) (by simp) ?_
          refine AllReadyH.cons hop4_9_19 (fun K hK => ?_) AllReadyH.nil
          go_simp
          go_at_call 35; (with_reducible refine (HR4.out _).mono ?_); rintro e w1 ⟨rfl, hb1⟩; (try have HO := hid (own_below HO.out hb1))
          refine hK.out _ _ ?_ (fun hHeld => ?_)
          · (try dsimp only); exact keepS HC.out (hHeld.1.trans (hb1.mono hHeld.1.size))
          clear hK K
          try simp only [Act.put, List.setIfInBounds_toArray, List.set_cons_zero, List.set_cons_succ]
          refine wpAnyH_take (i := 20) (v := ?_) hop4_9_20 (by kernel_rfl) (by kernel_rfl) (by kernel_rfl) (fun _ _ _ h => h) (Or.inl ⟨by rfl, ?hyatt54⟩) (by assumption) ?restatt54
          case hyatt54 => (intro w hSw; (try dsimp only at hSw); go_simp; first | (with_reducible rfl) | (rw [if_neg (by omega)]) | skip)
          simp only [Act.put, List.setIfInBounds_toArray, List.set_cons_zero, List.set_cons_succ]
          refine wpAnyH_take (i := 21) (v := ?_) hop4_9_21 (by kernel_rfl) (by kernel_rfl) (by kernel_rfl) (fun _ _ _ h => h) (Or.inl ⟨by rfl, ?hyatt55⟩) (by assumption) ?restatt55
          case hyatt55 => (intro w hSw; (try dsimp only at hSw); go_simp; first | (with_reducible rfl) | (rw [if_neg (by omega)]) | skip)
          simp only [Act.put, List.setIfInBounds_toArray, List.set_cons_zero, List.set_cons_succ]
          refine wpAnyH_take (i := 22) (v := ?_) hop4_9_22 (by kernel_rfl) (by kernel_rfl) (by kernel_rfl) (fun _ _ _ h => h) (Or.inl ⟨by rfl, ?hyatt56⟩) (by assumption) ?restatt56
          case hyatt56 => (intro w hSw; (try dsimp only at hSw); go_simp; first | (with_reducible rfl) | (rw [if_neg (by omega)]) | skip)
          simp only [Act.put, List.setIfInBounds_toArray, List.set_cons_zero, List.set_cons_succ]
          refine wpAnyH_take (i := 23) (v := ?_) hop4_9_23 (by kernel_rfl) (by kernel_rfl) (by kernel_rfl) (fun _ _ _ h => h) (Or.inl ⟨by rfl, ?hyatt57⟩) (by assumption) ?restatt57
          case hyatt57 => (intro w hSw; (try dsimp only at hSw); go_simp; first | (with_reducible rfl) | (rw [if_neg (by omega)]) | skip)
          simp only [Act.put, List.setIfInBounds_toArray, List.set_cons_zero, List.set_cons_succ]
          refine wpAnyH_take (i := 24) (v := ?_) hop4_9_24 (by kernel_rfl) (by kernel_rfl) (by kernel_rfl) (fun _ _ _ h => h) (Or.inl ⟨by rfl, ?hyatt58⟩) (by assumption) ?restatt58
          case hyatt58 => (intro w hSw; (try dsimp only at hSw); go_simp; first | (with_reducible rfl) | (rw [if_neg (by omega)]) | skip)
          simp only [Act.put, List.setIfInBounds_toArray, List.set_cons_zero, List.set_cons_succ]
          refine wpAnyH_take (i := 25) (v := ?_) hop4_9_25 (by kernel_rfl) (by kernel_rfl) (by kernel_rfl) (fun _ _ _ h => h) (Or.inl ⟨by rfl, ?hyatt59⟩) (by assumption) ?restatt59
          case hyatt59 => (intro w hSw; (try dsimp only at hSw); go_simp; first | (with_reducible rfl) | (rw [if_neg (by omega)]) | skip)
          simp only [Act.put, List.setIfInBounds_toArray, List.set_cons_zero, List.set_cons_succ]
          refine wpAnyH_take (i := 26) (v := ?_) hop4_9_26 (by kernel_rfl) (by kernel_rfl) (by kernel_rfl) (fun _ _ _ h => h) (Or.inl ⟨by rfl, ?hyatt60⟩) (by assumption) ?restatt60
          case hyatt60 => (intro w hSw; (try dsimp only at hSw); go_simp; first | (with_reducible rfl) | (rw [if_neg (by omega)]) | skip)
          simp only [Act.put, List.setIfInBounds_toArray, List.set_cons_zero, List.set_cons_succ]
          refine wpAnyH_take (i := 29) (v := ?_) hop4_9_29 (by kernel_rfl) (by kernel_rfl) (by kernel_rfl) (fun _ _ _ h => h) (Or.inl ⟨by rfl, ?hyatt61⟩) (by assumption) ?restatt61
          case hyatt61 => (intro w hSw; (try dsimp only at hSw); go_simp; first | (with_reducible rfl) | (rw [if_neg (by omega)]) | skip)
          simp only [Act.put, List.setIfInBounds_toArray, List.set_cons_zero, List.set_cons_succ]
          refine wpAnyH_take (i := 30) (v := ?_) hop4_9_30 (by kernel_rfl) (by kernel_rfl) (by kernel_rfl) (fun _ _ _ h => h) (Or.inl ⟨by rfl, ?hyatt62⟩) (by assumption) ?restatt62
          case hyatt62 => (intro w hSw; (try dsimp only at hSw); go_simp; first | (with_reducible rfl) | (rw [if_neg (by omega)]) | skip)
          simp only [Act.put, List.setIfInBounds_toArray, List.set_cons_zero, List.set_cons_succ]
          refine wpAnyH_ready (rs := [27]) (by kernel_rfl) (by simp) ?_
          refine AllReadyH.cons hop4_9_27 (fun K hK => ?_) AllReadyH.nil
          go_simp
          go_at_call 36; (with_reducible refine (HR5.out _).mono ?_); rintro e w1 ⟨v3, rfl, ho, hb1⟩; have HO := ho; clear ho
          refine hK.out _ _ ?_ (fun hHeld => ?_)
          · (try dsimp only); exact keepS HC.out (hHeld.1.trans (hb1.mono hHeld.1.size))
          clear hK K
          try simp only [Act.put, List.setIfInBounds_toArray, List.set_cons_zero, List.set_cons_succ]
          refine wpAnyH_ready (rs := [28, 31]) (by kernel_rfl) (by simp) ?_
          refine AllReadyH.cons hop4_9_28 (fun K hK => ?_) ?_
          · have hcv := own_convE HO.out HE3.out
            go_simp
            refine hK.out _ _ ?_ (fun hHeld => ?_)
            · (try dsimp only); exact hHeld
            clear hK K
            try simp only [Act.put, List.setIfInBounds_toArray, List.set_cons_zero, List.set_cons_succ]
            refine wpAnyH_ready (rs := [31]) (by kernel_rfl) (by simp) ?_
            refine AllReadyH.cons hop4_9_31 (fun K hK => ?_) AllReadyH.nil
            go_simp
            go_at_call 37; (with_reducible refine (HR6.out _).mono ?_); rintro e w1 ⟨rfl, hb1⟩; (try have HO := hid (own_below HO.out hb1))
            refine hK.out _ _ ?_ (fun hHeld => ?_)
            · (try dsimp only); exact keepS HC.out (hHeld.1.trans (hb1.mono hHeld.1.size))
            clear hK K
            try simp only [Act.put, List.setIfInBounds_toArray, List.set_cons_zero, List.set_cons_succ]
            refine wpAnyH_take (i := 32) (v := ?_) hop4_9_32 (by kernel_rfl) (by kernel_rfl) (by kernel_rfl) (fun _ _ _ h => h) (Or.inl ⟨by rfl, ?hyatt63⟩) (by assumption) ?restatt63
            case hyatt63 => (intro w hSw; (try dsimp only at hSw); go_simp; first | (with_reducible rfl) | (rw [if_neg (by omega)]) | skip)
            simp only [Act.put, List.setIfInBounds_toArray, List.set_cons_zero, List.set_cons_succ]
            refine wpAnyH_take (i := 33) (v := ?_) hop4_9_33 (by kernel_rfl) (by kernel_rfl) (by kernel_rfl) (fun _ _ _ h => h) (Or.inl ⟨by rfl, ?hyatt64⟩) (by assumption) ?restatt64
            case hyatt64 => (intro w hSw; (try dsimp only at hSw); go_simp; first | (with_reducible rfl) | (rw [if_neg (by omega)]) | skip)
            simp only [Act.put, List.setIfInBounds_toArray, List.set_cons_zero, List.set_cons_succ]
            refine wpAnyH_take (i := 34) (v := ?_) hop4_9_34 (by kernel_rfl) (by kernel_rfl) (by kernel_rfl) (fun _ _ _ h => h) (Or.inl ⟨by rfl, ?hyatt65⟩) (by assumption) ?restatt65
            case hyatt65 => (intro w hSw; (try dsimp only at hSw); go_simp; first | (with_reducible rfl) | (rw [if_neg (by omega)]) | skip)
            simp only [Act.put, List.setIfInBounds_toArray, List.set_cons_zero, List.set_cons_succ]
            refine wpAnyH_done (by kernel_rfl) ?_ _
            refine NoPanic.normal ?_
            exact HQ.out _ _ _ _ _ _ _ _ _ _ _ _ _ _ _ _ _ _ _ _ _ _ _ _ _ _ _ _ _ _ _ _ _ _ _ hHeld.1
          refine AllReadyH.cons hop4_9_31 (fun K hK => ?_) ?_
          · go_simp
            go_at_call 37; (with_reducible refine (HR6.out _).mono ?_); rintro e w1 ⟨rfl, hb1⟩; (try have HO := hid (own_below HO.out hb1))
            refine hK.out _ _ ?_ (fun hHeld => ?_)
            · (try dsimp only); exact keepS HC.out (hHeld.1.trans (hb1.mono hHeld.1.size))
            clear hK K
            try simp only [Act.put, List.setIfInBounds_toArray, List.set_cons_zero, List.set_cons_succ]
            refine wpAnyH_ready (rs := [28]) (by kernel_rfl) (by simp) ?_
            refine AllReadyH.cons hop4_9_28 (fun K hK => ?_) AllReadyH.nil
            have hcv := own_convE HO.out HE3.out
            go_simp
            refine hK.out _ _ ?_ (fun hHeld => ?_)
            · (try dsimp only); exact hHeld
            clear hK K
            try simp only [Act.put, List.setIfInBounds_toArray, List.set_cons_zero, List.set_cons_succ]
            refine wpAnyH_take (i := 32) (v := ?_) hop4_9_32 (by kernel_rfl) (by kernel_rfl) (by kernel_rfl) (fun _ _ _ h => h) (Or.inl ⟨by rfl, ?hyatt66⟩) (by assumption) ?restatt66
            case hyatt66 => (intro w hSw; (try dsimp only at hSw); go_simp; first | (with_reducible rfl) | (rw [if_neg (by omega)]) | skip)
            simp only [Act.put, List.setIfInBounds_toArray, List.set_cons_zero, List.set_cons_succ]
            refine wpAnyH_take (i := 33) (v := ?_) hop4_9_33 (by kernel_rfl) (by kernel_rfl) (by kernel_rfl) (fun _ _ _ h => h) (Or.inl ⟨by rfl, ?hyatt67⟩) (by assumption) ?restatt67
            case hyatt67 => (intro w hSw; (try dsimp only at hSw); go_simp; first | (with_reducible rfl) | (rw [if_neg (by omega)]) | skip)
            simp only [Act.put, List.setIfInBounds_toArray, List.set_cons_zero, List.set_cons_succ]
            refine wpAnyH_take (i := 34) (v := ?_) hop4_9_34 (by kernel_rfl) (by kernel_rfl) (by kernel_rfl) (fun _ _ _ h => h) (Or.inl ⟨by rfl, ?hyatt68⟩) (by assumption) ?restatt68
            case hyatt68 => (intro w hSw; (try dsimp only at hSw); go_simp; first | (with_reducible rfl) | (rw [if_neg (by omega)]) | skip)
            simp only [Act.put, List.setIfInBounds_toArray, List.set_cons_zero, List.set_cons_succ]
            refine wpAnyH_done (by kernel_rfl) ?_ _
            refine NoPanic.normal ?_
            exact HQ.out _ _ _ _ _ _ _ _ _ _ _ _ _ _ _ _ _ _ _ _ _ _ _ _ _ _ _ _ _ _ _ _ _ _ _ hHeld.1
          exact AllReadyH.nil
        refine AllReadyH.cons hop4_9_19 (fun K hK => ?_) ?_
        · go_simp
          go_at_call 35; (with_reducible refine (HR4.out _).mono ?_); rintro e w1 ⟨rfl, hb1⟩; (try have HO := hid (own_below HO.out hb1))
          refine hK.out _ _ ?_ (fun hHeld => ?_)
          · (try dsimp only); exact keepS HC.out (hHeld.1.trans (hb1.mono hHeld.1.size))
          clear hK K
          try simp only [Act.put, List.setIfInBounds_toArray, List.set_cons_zero, List.set_cons_succ]
          refine wpAnyH_ready (rs := [15]) (by kernel_rfl) (by simp) ?_
          refine AllReadyH.cons hop4_9_15 (fun K hK => ?_) AllReadyH.nil
          have hcv := own_convE HO.out HE2.out
          go_simp
          refine hK.out _ _ ?_ (fun hHeld => ?_)
          · (try dsimp only); exact hHeld
          clear hK K
          try simp only [Act.put, List.setIfInBounds_toArray, List.set_cons_zero, List.set_cons_succ]
          refine wpAnyH_take (i := 20) (v := ?_) hop4_9_20 (by kernel_rfl) (by kernel_rfl) (by kernel_rfl) (fun _ _ _ h => h) (Or.inl ⟨by rfl, ?hyatt69⟩) (by assumption) ?restatt69
          case hyatt69 => (intro w hSw; (try dsimp only at hSw); go_simp; first | (with_reducible rfl) | (rw [if_neg (by omega)]) | skip)
          simp only [Act.put, List.setIfInBounds_toArray, List.set_cons_zero, List.set_cons_succ]
          refine wpAnyH_take (i := 21) (v := ?_) hop4_9_21 (by kernel_rfl) (by kernel_rfl) (by kernel_rfl) (fun _ _ _ h => h) (Or.inl ⟨by rfl, ?hyatt70⟩) (by assumption) ?restatt70
          case hyatt70 => (intro w hSw; (try dsimp only at hSw); go_simp; first | (with_reducible rfl) | (rw [if_neg (by omega)]) | skip)
          simp only [Act.put, List.setIfInBounds_toArray, List.set_cons_zero, List.set_cons_succ]
          refine wpAnyH_take (i := 22) (v := ?_) hop4_9_22 (by kernel_rfl) (by kernel_rfl) (by kernel_rfl) (fun _ _ _ h => h) (Or.inl ⟨by rfl, ?hyatt71⟩) (by assumption) ?restatt71
          case hyatt71 => (intro w hSw; (try dsimp only at hSw); go_simp; first | (with_reducible rfl) | (rw [if_neg (by omega)]) | skip)
          simp only [Act.put, List.setIfInBounds_toArray, List.set_cons_zero, List.set_cons_succ]
          refine wpAnyH_take (i := 23) (v := ?_) hop4_9_23 (by kernel_rfl) (by kernel_rfl) (by kernel_rfl) (fun _ _ _ h => h) (Or.inl ⟨by rfl, ?hyatt72⟩) (by assumption) ?restatt72
          case hyatt72 => (intro w hSw; (try dsimp only at hSw); go_simp; first | (with_reducible rfl) | (rw [if_neg (by omega)]) | skip)
          simp only [Act.put, List.setIfInBounds_toArray, List.set_cons_zero, List.set_cons_succ]
          refine wpAnyH_take (i := 24) (v := ?_) hop4_9_24 (by kernel_rfl) (by kernel_rfl) (by kernel_rfl) (fun _ _ _ h => h) (Or.inl ⟨by rfl, ?hyatt73⟩) (by assumption) ?restatt73
          case hyatt73 => (intro w hSw; (try dsimp only at hSw); go_simp; first | (with_reducible rfl) | (rw [if_neg (by omega)]) | skip)
          simp only [Act.put, List.setIfInBounds_toArray, List.set_cons_zero, List.set_cons_succ]
          refine wpAnyH_take (i := 25) (v := ?_) hop4_9_25 (by kernel_rfl) (by kernel_rfl) (by kernel_rfl) (fun _ _ _ h => h) (Or.inl ⟨by rfl, ?hyatt74⟩) (by assumption) ?restatt74
          case hyatt74 => (intro w hSw; (try dsimp only at hSw); go_simp; first | (with_reducible rfl) | (rw [if_neg (by omega)]) | skip)
          simp only [Act.put, List.setIfInBounds_toArray, List.set_cons_zero, List.set_cons_succ]
          refine wpAnyH_take (i := 26) (v := ?_) hop4_9_26 (by kernel_rfl) (by kernel_rfl) (by kernel_rfl) (fun _ _ _ h => h) (Or.inl ⟨by rfl, ?hyatt75⟩) (by assumption) ?restatt75
          case hyatt75 => (intro w hSw; (try dsimp only at hSw); go_simp; first | (with_reducible rfl) | (rw [if_neg (by omega)]) | skip)
          simp only [Act.put, List.setIfInBounds_toArray, List.set_cons_zero, List.set_cons_succ]
          refine wpAnyH_take (i := 29) (v := ?_) hop4_9_29 (by kernel_rfl) (by kernel_rfl) (by kernel_rfl) (fun _ _ _ h => h) (Or.inl ⟨by rfl, ?hyatt76⟩) (by assumption) ?restatt76
          case hyatt76 => (intro w hSw; (try dsimp only at hSw); go_simp; first | (with_reducible rfl) | (rw [if_neg (by omega)]) | skip)
          simp only [Act.put, List.setIfInBounds_toArray, List.set_cons_zero, List.set_cons_succ]
          refine wpAnyH_take (i := 30) (v := ?_) hop4_9_30 (by kernel_rfl) (by kernel_rfl) (by kernel_rfl) (fun _ _ _ h => h) (Or.inl ⟨by rfl, ?hyatt77⟩) (by assumption) ?restatt77
          case hyatt77 => (intro w hSw; (try dsimp only at hSw); go_simp; first | (with_reducible rfl) | (rw [if_neg (by omega)]) | skip)
          simp only [Act.put, List.setIfInBounds_toArray, List.set_cons_zero, List.set_cons_succ]
          refine wpAnyH_ready (rs := [27]) (by kernel_rfl) (by simp) ?_
          refine AllReadyH.cons hop4_9_27 (fun K hK => ?_) AllReadyH.nil
          go_simp
          go_at_call 36; (with_reducible refine (HR5.out _).mono ?_); rintro e w1 ⟨v3, rfl, ho, hb1⟩; have HO := ho; clear ho
          refine hK.out _ _ ?_ (fun hHeld => ?_)
          · (try dsimp only); exact keepS HC.out (hHeld.1.trans (hb1.mono hHeld.1.size))
          clear hK K
          try simp only [Act.put, List.setIfInBounds_toArray, List.set_cons_zero, List.set_cons_succ]
          refine wpAnyH_ready (rs := [28, 31]) (by kernel_rfl) (by simp) ?_
          refine AllReadyH.cons hop4_9_28 (fun K hK => ?_) ?_
          · have hcv := own_convE HO.out HE3.out
            go_simp
            refine hK.out _ _ ?_ (fun hHeld => ?_)
            · (try dsimp only); exact hHeld
            clear hK K
            try simp only [Act.put, List.setIfInBounds_toArray, List.set_cons_zero, List.set_cons_succ]
            refine wpAnyH_ready (rs := [31]) (by kernel_rfl) (by simp) ?_
            refine AllReadyH.cons hop4_9_31 (fun K hK => ?_) AllReadyH.nil
            go_simp
            go_at_call 37; (with_reducible refine (HR6.out _).mono ?_); rintro e w1 ⟨rfl, hb1⟩; (try have HO := hid (own_below HO.out hb1))
            refine hK.out _ _ ?_ (fun hHeld => ?_)
            · (try dsimp only); exact keepS HC.out (hHeld.1.trans (hb1.mono hHeld.1.size))
            clear hK K
            try simp only [Act.put, List.setIfInBounds_toArray, List.set_cons_zero, List.set_cons_succ]
            refine wpAnyH_take (i := 32) (v := ?_) hop4_9_32 (by kernel_rfl) (by kernel_rfl) (by kernel_rfl) (fun _ _ _ h => h) (Or.inl ⟨by rfl, ?hyatt78⟩) (by assumption) ?restatt78
            case hyatt78 => (intro w hSw; (try dsimp only at hSw); go_simp; first | (with_reducible rfl) | (rw [if_neg (by omega)]) | skip)
            simp only [Act.put, List.setIfInBounds_toArray, List.set_cons_zero, List.set_cons_succ]
            refine wpAnyH_take (i := 33) (v := ?_) hop4_9_33 (by kernel_rfl) (by kernel_rfl) (by kernel_rfl) (fun _ _ _ h => h) (Or.inl ⟨by rfl, ?hyatt79⟩) (by assumption) ?restatt79
            case hyatt79 => (intro w hSw; (try dsimp only at hSw); go_simp; first | (with_reducible rfl) | (rw [if_neg (by omega)]) | skip)
            simp only [Act.put, List.setIfInBounds_toArray, List.set_cons_zero, List.set_cons_succ]
            refine wpAnyH_take (i := 34) (v := ?_) hop4_9_34 (by kernel_rfl) (by kernel_rfl) (by kernel_rfl) (fun _ _ _ h => h) (Or.inl ⟨by rfl, ?hyatt80⟩) (by assumption) ?restatt80
            case hyatt80 => (intro w hSw; (try dsimp only at hSw); go_simp; first | (with_reducible rfl) | (rw [if_neg (by omega)]) | skip)
            simp only [Act.put, List.setIfInBounds_toArray, List.set_cons_zero, List.set_cons_succ]
            refine wpAnyH_done (by kernel_rfl) ?_ _
            refine NoPanic.normal ?_
            exact HQ.out _ _ _ _ _ _ _ _ _ _ _ _ _ _ _ _ _ _ _ _ _ _ _ _ _ _ _ _ _ _ _ _ _ _ _ hHeld.1
          refine AllReadyH.cons hop4_9_31 (fun K hK => ?_) ?_
          · go_simp
            go_at_call 37; (with_reducible refine (HR6.out _).mono ?_); rintro e w1 ⟨rfl, hb1⟩; (try have HO := hid (own_below HO.out hb1))
            refine hK.out _ _ ?_ (fun hHeld => ?_)
            · (try dsimp only); exact keepS HC.out (hHeld.1.trans (hb1.mono hHeld.1.size))
            clear hK K
            try simp only [Act.put, List.setIfInBounds_toArray, List.set_cons_zero, List.set_cons_succ]
            refine wpAnyH_ready (rs := [28]) (by kernel_rfl) (by simp) ?_
            refine AllReadyH.cons hop4_9_28 (fun K hK => ?_) AllReadyH.nil
            have hcv := own_convE HO.out HE3.out
            go_simp
            refine hK.out _ _ ?_ (fun hHeld => ?_)
            · (try dsimp only); exact hHeld
            clear hK K
            try simp only [Act.put, List.setIfInBounds_toArray, List.set_cons_zero, List.set_cons_succ]
            refine wpAnyH_take (i := 32) (v := ?_) hop4_9_32 (by kernel_rfl) (by kernel_rfl) (by kernel_rfl) (fun _ _ _ h => h) (Or.inl ⟨by rfl, ?hyatt81⟩) (by assumption) ?restatt81
            case hyatt81 => (intro w hSw; (try dsimp only at hSw); go_simp; first | (with_reducible rfl) | (rw [if_neg (by omega)]) | skip)
            simp only [Act.put, List.setIfInBounds_toArray, List.set_cons_zero, List.set_cons_succ]
            refine wpAnyH_take (i := 33) (v := ?_) hop4_9_33 (by kernel_rfl) (by kernel_rfl) (by kernel_rfl) (fun _ _ _ h => h) (Or.inl ⟨by rfl, ?hyatt82⟩) (by assumption) ?restatt82
            case hyatt82 => (intro w hSw; (try dsimp only at hSw); go_simp; first | (with_reducible rfl) | (rw [if_neg (by omega)]) | skip)
            simp only [Act.put, List.setIfInBounds_toArray, List.set_cons_zero, List.set_cons_succ]
            refine wpAnyH_take (i := 34) (v := ?_) hop4_9_34 (by kernel_rfl) (by kernel_rfl) (by kernel_rfl) (fun _ _ _ h => h) (Or.inl ⟨by rfl, ?hyatt83⟩) (by assumption) ?restatt83
            case hyatt83 => (intro w hSw; (try dsimp only at hSw); go_simp; first | (with_reducible rfl) | (rw [if_neg (by omega)]) | skip)
            simp only [Act.put, List.setIfInBounds_toArray, List.set_cons_zero, List.set_cons_succ]
            refine wpAnyH_done (by kernel_rfl) ?_ _
            refine NoPanic.normal ?_
            exact HQ.out _ _ _ _ _ _ _ _ _ _ _ _ _ _ _ _ _ _ _ _ _ _ _ _ _ _ _ _ _ _ _ _ _ _ _ hHeld.1
          exact AllReadyH.nil
        exact AllReadyH.nil
      exact AllReadyH.nil
    | false =>
      refine wp_region_noPanic ?_
      refine wp_region_held_drew (S := (fun W => Below wb.heap.size wb W ∧ W.cell? ⟨X, 0, none⟩ = some (.int .u8 vv) ∧ W.cell? ⟨X, 1, none⟩ = some (.string p) ∧ W.cell? ⟨X, 2, none⟩ = some (.string r) ∧ W.cell? ⟨X, 3, none⟩ = some (.bool lm) ∧ W.cell? ⟨X, 4, none⟩ = some (.int .u32 la) ∧ W.cell? ⟨X, 5, none⟩ = some (.int .u32 lb) ∧ W.cell? ⟨X, 6, none⟩ = some (.int .u8 tv) ∧ W.cell? ⟨X, 7, none⟩ = some (.bool tm) ∧ W.cell? ⟨X, 8, none⟩ = some (.int .u32 ta) ∧ W.cell? ⟨X, 9, none⟩ = some (.int .u32 tb) ∧ W.cell? ⟨X, 10, none⟩ = some (.int .u8 gv) ∧ W.cell? ⟨X, 11, none⟩ = some (.bool gm) ∧ W.cell? ⟨Y, 0, none⟩ = some (.string s) ∧ W.cell? ⟨Y, 1, none⟩ = some (.string u) ∧ W.cell? ⟨g5, 0, none⟩ = some (.slice A0 (bytesOf p).length c0) ∧ W.cell? ⟨g5, 1, none⟩ = some (.slice A1 (bytesOf r).length c1) ∧ W.cell? ⟨g6, 0, none⟩ = some (.bool lm) ∧ W.cell? ⟨g6, 1, none⟩ = some (.int .u32 la) ∧ W.cell? ⟨g6, 2, none⟩ = some (.int .u32 lb) ∧ W.cell? ⟨g7, 0, none⟩ = some (.int .u8 tv) ∧ W.cell? ⟨g7, 1, none⟩ = some (.bool tm) ∧ W.cell? ⟨g7, 2, none⟩ = some (.int .u32 ta) ∧ W.cell? ⟨g7, 3, none⟩ = some (.int .u32 tb) ∧ W.cell? ⟨g8, 0, none⟩ = some (.int .u8 gv) ∧ W.cell? ⟨g8, 1, none⟩ = some (.bool gm))) (by kernel_rfl) ?hSatf1 (fun hHeld => ?goatf1)
      case hSatf1 => exact keepS HC.out HB.out.drew
      refine wpAnyH_take (i := 0) (v := ?_) hop4_9_0 (by kernel_rfl) (by kernel_rfl) (by kernel_rfl) (fun _ _ _ h => h) (Or.inl ⟨by rfl, ?hyatf2⟩) (by assumption) ?restatf2
      case hyatf2 => (intro w hSw; (try dsimp only at hSw); go_simp; first | (with_reducible rfl) | (rw [if_neg (by omega)]) | skip)
      simp only [Act.put, List.setIfInBounds_toArray, List.set_cons_zero, List.set_cons_succ]
      refine wpAnyH_take (i := 1) (v := ?_) hop4_9_1 (by kernel_rfl) (by kernel_rfl) (by kernel_rfl) (fun _ _ _ h => h) (Or.inl ⟨by rfl, ?hyatf3⟩) (by assumption) ?restatf3
      case hyatf3 => (intro w hSw; (try dsimp only at hSw); go_simp; first | (with_reducible rfl) | (rw [if_neg (by omega)]) | skip)
      simp only [Act.put, List.setIfInBounds_toArray, List.set_cons_zero, List.set_cons_succ]
      refine wpAnyH_take (i := 2) (v := ?_) hop4_9_2 (by kernel_rfl) (by kernel_rfl) (by kernel_rfl) (fun _ _ _ h => h) (Or.inl ⟨by rfl, ?hyatf4⟩) (by assumption) ?restatf4
      case hyatf4 => (intro w hSw; (try dsimp only at hSw); go_simp; first | (with_reducible rfl) | (rw [if_neg (by omega)]) | skip)
      simp only [Act.put, List.setIfInBounds_toArray, List.set_cons_zero, List.set_cons_succ]
      refine wpAnyH_take (i := 3) (v := ?_) hop4_9_3 (by kernel_rfl) (by kernel_rfl) (by kernel_rfl) (fun _ _ _ h => h) (Or.inl ⟨by rfl, ?hyatf5⟩) (by assumption) ?restatf5
      case hyatf5 => (intro w hSw; (try dsimp only at hSw); go_simp; first | (with_reducible rfl) | (rw [if_neg (by omega)]) | skip)
      simp only [Act.put, List.setIfInBounds_toArray, List.set_cons_zero, List.set_cons_succ]
      refine wpAnyH_take (i := 6) (v := ?_) hop4_9_6 (by kernel_rfl) (by kernel_rfl) (by kernel_rfl) (fun _ _ _ h => h) (Or.inl ⟨by rfl, ?hyatf6⟩) (by assumption) ?restatf6
      case hyatf6 => (intro w hSw; (try dsimp only at hSw); go_simp; first | (with_reducible rfl) | (rw [if_neg (by omega)]) | skip)
      simp only [Act.put, List.setIfInBounds_toArray, List.set_cons_zero, List.set_cons_succ]
      refine wpAnyH_take (i := 7) (v := ?_) hop4_9_7 (by kernel_rfl) (by kernel_rfl) (by kernel_rfl) (fun _ _ _ h => h) (Or.inl ⟨by rfl, ?hyatf7⟩) (by assumption) ?restatf7
      case hyatf7 => (intro w hSw; (try dsimp only at hSw); go_simp; first | (with_reducible rfl) | (rw [if_neg (by omega)]) | skip)
      simp only [Act.put, List.setIfInBounds_toArray, List.set_cons_zero, List.set_cons_succ]
      refine wpAnyH_ready (rs := [4]) (by kernel_rfl) (by simp) ?_
      refine AllReadyH.cons hop4_9_4 (fun K hK => ?_) AllReadyH.nil
      go_simp
      go_at_call 32; (with_reducible refine (HR1.out _ hHeld.1 (own_below H9.out (Below.drew (Below.refl _ _)))).mono ?_); rintro e w1 ⟨v1, rfl, ho, hb1⟩; have HO := ho; clear ho
      refine hK.out _ _ ?_ (fun hHeld => ?_)
      · (try dsimp only); exact keepS HC.out hb1
      clear hK K
      try simp only [Act.put, List.setIfInBounds_toArray, List.set_cons_zero, List.set_cons_succ]
      refine wpAnyH_ready (rs := [5, 8]) (by kernel_rfl) (by simp) ?_
      refine AllReadyH.cons hop4_9_5 (fun K hK => ?_) ?_
      · have hcv := own_convE HO.out HE1.out
        go_simp
        refine hK.out _ _ ?_ (fun hHeld => ?_)
        · (try dsimp only); exact hHeld
        clear hK K
        try simp only [Act.put, List.setIfInBounds_toArray, List.set_cons_zero, List.set_cons_succ]
        refine wpAnyH_ready (rs := [8]) (by kernel_rfl) (by simp) ?_
        refine AllReadyH.cons hop4_9_8 (fun K hK => ?_) AllReadyH.nil
        go_simp
        go_at_call 33; (with_reducible refine (HR2.out _).mono ?_); rintro e w1 ⟨rfl, hb1⟩; (try have HO := hid (own_below HO.out hb1))
        refine hK.out _ _ ?_ (fun hHeld => ?_)
        · (try dsimp only); exact keepS HC.out (hHeld.1.trans (hb1.mono hHeld.1.size))
        clear hK K
        try simp only [Act.put, List.setIfInBounds_toArray, List.set_cons_zero, List.set_cons_succ]
        refine wpAnyH_take (i := 9) (v := ?_) hop4_9_9 (by kernel_rfl) (by kernel_rfl) (by kernel_rfl) (fun _ _ _ h => h) (Or.inl ⟨by rfl, ?hyatf8⟩) (by assumption) ?restatf8
        case hyatf8 => (intro w hSw; (try dsimp only at hSw); go_simp; first | (with_reducible rfl) | (rw [if_neg (by omega)]) | skip)
        simp only [Act.put, List.setIfInBounds_toArray, List.set_cons_zero, List.set_cons_succ]
        refine wpAnyH_take (i := 10) (v := ?_) hop4_9_10 (by kernel_rfl) (by kernel_rfl) (by kernel_rfl) (fun _ _ _ h => h) (Or.inl ⟨by rfl, ?hyatf9⟩) (by assumption) ?restatf9
        case hyatf9 => (intro w hSw; (try dsimp only at hSw); go_simp; first | (with_reducible rfl) | (rw [if_neg (by omega)]) | skip)
        simp only [Act.put, List.setIfInBounds_toArray, List.set_cons_zero, List.set_cons_succ]
        refine wpAnyH_take (i := 11) (v := ?_) hop4_9_11 (by kernel_rfl) (by kernel_rfl) (by kernel_rfl) (fun _ _ _ h => h) (Or.inl ⟨by rfl, ?hyatf10⟩) (by assumption) ?restatf10
        case hyatf10 => (intro w hSw; (try dsimp only at hSw); go_simp; first | (with_reducible rfl) | (rw [if_neg (by omega)]) | skip)
        simp only [Act.put, List.setIfInBounds_toArray, List.set_cons_zero, List.set_cons_succ]
        refine wpAnyH_take (i := 12) (v := ?_) hop4_9_12 (by kernel_rfl) (by kernel_rfl) (by kernel_rfl) (fun _ _ _ h => h) (Or.inl ⟨by rfl, ?hyatf11⟩) (by assumption) ?restatf11
        case hyatf11 => (intro w hSw; (try dsimp only at hSw); go_simp; first | (with_reducible rfl) | (rw [if_neg (by omega)]) | skip)
        simp only [Act.put, List.setIfInBounds_toArray, List.set_cons_zero, List.set_cons_succ]
        refine wpAnyH_take (i := 13) (v := ?_) hop4_9_13 (by kernel_rfl) (by kernel_rfl) (by kernel_rfl) (fun _ _ _ h => h) (Or.inl ⟨by rfl, ?hyatf12⟩) (by assumption) ?restatf12
        case hyatf12 => (intro w hSw; (try dsimp only at hSw); go_simp; first | (with_reducible rfl) | (rw [if_neg (by omega)]) | skip)
        simp only [Act.put, List.setIfInBounds_toArray, List.set_cons_zero, List.set_cons_succ]
        refine wpAnyH_take (i := 16) (v := ?_) hop4_9_16 (by kernel_rfl) (by kernel_rfl) (by kernel_rfl) (fun _ _ _ h => h) (Or.inl ⟨by rfl, ?hyatf13⟩) (by assumption) ?restatf13
        case hyatf13 => (intro w hSw; (try dsimp only at hSw); go_simp; first | (with_reducible rfl) | (rw [if_neg (by omega)]) | skip)
        simp only [Act.put, List.setIfInBounds_toArray, List.set_cons_zero, List.set_cons_succ]
        refine wpAnyH_take (i := 17) (v := ?_) hop4_9_17 (by kernel_rfl) (by kernel_rfl) (by kernel_rfl) (fun _ _ _ h => h) (Or.inl ⟨by rfl, ?hyatf14⟩) (by assumption) ?restatf14
        case hyatf14 => (intro w hSw; (try dsimp only at hSw); go_simp; first | (with_reducible rfl) | (rw [if_neg (by omega)]) | skip)
        simp only [Act.put, List.setIfInBounds_toArray, List.set_cons_zero, List.set_cons_succ]
        refine wpAnyH_take (i := 18) (v := ?_) hop4_9_18 (by kernel_rfl) (by kernel_rfl) (by kernel_rfl) (fun _ _ _ h => h) (Or.inl ⟨by rfl, ?hyatf15⟩) (by assumption) ?restatf15
        case hyatf15 => (intro w hSw; (try dsimp only at hSw); go_simp; first | (with_reducible rfl) | (rw [if_neg (by omega)]) | skip)
        simp only [Act.put, List.setIfInBounds_toArray, List.set_cons_zero, List.set_cons_succ]
        refine wpAnyH_ready (rs := [14]) (by kernel_rfl) (by simp) ?_
        refine AllReadyH.cons hop4_9_14 (fun K hK => ?_) AllReadyH.nil
        go_simp
        go_at_call 34; (with_reducible refine (HR3.out _ hHeld.1).mono ?_); rintro e w1 ⟨v2, rfl, ho, hb1⟩; have HO := ho; clear ho
        refine hK.out _ _ ?_ (fun hHeld => ?_)
        · (try dsimp only); exact keepS HC.out (hHeld.1.trans (hb1.mono hHeld.1.size))
        clear hK K
        try simp only [Act.put, List.setIfInBounds_toArray, List.set_cons_zero, List.set_cons_succ]
        refine wpAnyH_ready (rs := [15, 19]) (by kernel_rfl) (by simp) ?_
        refine AllReadyH.cons hop4_9_15 (fun K hK => ?_) ?_
        · have hcv := own_convE HO.out HE2.out
          go_simp
          refine hK.out _ _ ?_ (fun hHeld => ?_)
          · (try dsimp only); exact hHeld
          clear hK K
          try simp only [Act.put, List.setIfInBounds_toArray, List.set_cons_zero, List.set_cons_succ]
          refine wpAnyH_ready (rs := [19]) (by kernel_rfl) (by simp) ?_
          refine AllReadyH.cons hop4_9_19 (fun K hK => ?_) AllReadyH.nil
          go_simp
          go_at_call 35; (with_reducible refine (HR4.out _).mono ?_); rintro e w1 ⟨rfl, hb1⟩; (try have HO := hid (own_below HO.out hb1))
          refine hK.out _ _ ?_ (fun hHeld => ?_)
          · (try dsimp only); exact keepS HC.out (hHeld.1.trans (hb1.mono hHeld.1.size))
          clear hK K
          try simp only [Act.put, List.setIfInBounds_toArray, List.set_cons_zero, List.set_cons_succ]
          refine wpAnyH_take (i := 20) (v := ?_) hop4_9_20 (by kernel_rfl) (by kernel_rfl) (by kernel_rfl) (fun _ _ _ h => h) (Or.inl ⟨by rfl, ?hyatf16⟩) (by assumption) ?restatf16
          case hyatf16 => (intro w hSw; (try dsimp only at hSw); go_simp; first | (with_reducible rfl) | (rw [if_neg (by omega)]) | skip)
          simp only [Act.put, List.setIfInBounds_toArray, List.set_cons_zero, List.set_cons_succ]
          refine wpAnyH_take (i := 21) (v := ?_) hop4_9_21 (by kernel_rfl) (by kernel_rfl) (by kernel_rfl) (fun _ _ _ h => h) (Or.inl ⟨by rfl, ?hyatf17⟩) (by assumption) ?restatf17
          case hyatf17 => (intro w hSw; (try dsimp only at hSw); go_simp; first | (with_reducible rfl) | (rw [if_neg (by omega)]) | skip)
          simp only [Act.put, List.setIfInBounds_toArray, List.set_cons_zero, List.set_cons_succ]
          refine wpAnyH_take (i := 22) (v := ?_) hop4_9_22 (by kernel_rfl) (by kernel_rfl) (by kernel_rfl) (fun _ _ _ h => h) (Or.inl ⟨by rfl, ?hyatf18⟩) (by assumption) ?restatf18
          case hyatf18 => (intro w hSw; (try dsimp only at hSw); go_simp; first | (with_reducible rfl) | (rw [if_neg (by omega)]) | skip)
          simp only [Act.put, List.setIfInBounds_toArray, List.set_cons_zero, List.set_cons_succ]
          refine wpAnyH_take (i := 23) (v := ?_) hop4_9_23 (by kernel_rfl) (by kernel_rfl) (by kernel_rfl) (fun _ _ _ h => h) (Or.inl ⟨by rfl, ?hyatf19⟩) (by assumption) ?restatf19
          case hyatf19 => (intro w hSw; (try dsimp only at hSw); go_simp; first | (with_reducible rfl) | (rw [if_neg (by omega)]) | skip)
          simp only [Act.put, List.setIfInBounds_toArray, List.set_cons_zero, List.set_cons_succ]
          refine wpAnyH_take (i := 24) (v := ?_) hop4_9_24 (by kernel_rfl) (by kernel_rfl) (by kernel_rfl) (fun _ _ _ h => h) (Or.inl ⟨by rfl, ?hyatf20⟩) (by assumption) ?restatf20
          case hyatf20 => (intro w hSw; (try dsimp only at hSw); go_simp; first | (with_reducible rfl) | (rw [if_neg (by omega)]) | skip)
          simp only [Act.put, List.setIfInBounds_toArray, List.set_cons_zero, List.set_cons_succ]
          refine wpAnyH_take (i := 25) (v := ?_) hop4_9_25 (by kernel_rfl) (by kernel_rfl) (by kernel_rfl) (fun _ _ _ h => h) (Or.inl ⟨by rfl, ?hyatf21⟩) (by assumption) ?restatf21
          case hyatf21 => (intro w hSw; (try dsimp only at hSw); go_simp; first | (with_reducible rfl) | (rw [if_neg (by omega)]) | skip)
          simp only [Act.put, List.setIfInBounds_toArray, List.set_cons_zero, List.set_cons_succ]
          refine wpAnyH_take (i := 26) (v := undef) hop4_9_26 (by kernel_rfl) (by kernel_rfl) (by kernel_rfl) (fun _ _ _ h => h) (Or.inr ⟨by rfl, rfl⟩) (by assumption) ?_
          simp only [Act.put, List.setIfInBounds_toArray, List.set_cons_zero, List.set_cons_succ]
          refine wpAnyH_take (i := 27) (v := undef) hop4_9_27 (by kernel_rfl) (by kernel_rfl) (by kernel_rfl) (fun _ _ _ h => h) (Or.inr ⟨by rfl, rfl⟩) (by assumption) ?_
          simp only [Act.put, List.setIfInBounds_toArray, List.set_cons_zero, List.set_cons_succ]
          refine wpAnyH_take (i := 28) (v := undef) hop4_9_28 (by kernel_rfl) (by kernel_rfl) (by kernel_rfl) (fun _ _ _ h => h) (Or.inr ⟨by rfl, rfl⟩) (by assumption) ?_
          simp only [Act.put, List.setIfInBounds_toArray, List.set_cons_zero, List.set_cons_succ]
          refine wpAnyH_take (i := 29) (v := undef) hop4_9_29 (by kernel_rfl) (by kernel_rfl) (by kernel_rfl) (fun _ _ _ h => h) (Or.inr ⟨by rfl, rfl⟩) (by assumption) ?_
          simp only [Act.put, List.setIfInBounds_toArray, List.set_cons_zero, List.set_cons_succ]
          refine wpAnyH_take (i := 30) (v := undef) hop4_9_30 (by kernel_rfl) (by kernel_rfl) (by kernel_rfl) (fun _ _ _ h => h) (Or.inr ⟨by rfl, rfl⟩) (by assumption) ?_
          simp only [Act.put, List.setIfInBounds_toArray, List.set_cons_zero, List.set_cons_succ]
          refine wpAnyH_take (i := 31) (v := undef) hop4_9_31 (by kernel_rfl) (by kernel_rfl) (by kernel_rfl) (fun _ _ _ h => h) (Or.inr ⟨by rfl, rfl⟩) (by assumption) ?_
          simp only [Act.put, List.setIfInBounds_toArray, List.set_cons_zero, List.set_cons_succ]
          refine wpAnyH_take (i := 32) (v := undef) hop4_9_32 (by kernel_rfl) (by kernel_rfl) (by kernel_rfl) (fun _ _ _ h => h) (Or.inr ⟨by rfl, rfl⟩) (by assumption) ?_
          simp only [Act.put, List.setIfInBounds_toArray, List.set_cons_zero, List.set_cons_succ]
          refine wpAnyH_take (i := 33) (v := ?_) hop4_9_33 (by kernel_rfl) (by kernel_rfl) (by kernel_rfl) (fun _ _ _ h => h) (Or.inl ⟨by rfl, ?hyatf22⟩) (by assumption) ?restatf22
          case hyatf22 => (intro w hSw; (try dsimp only at hSw); go_simp; first | (with_reducible rfl) | (rw [if_neg (by omega)]) | skip)
          simp only [Act.put, List.setIfInBounds_toArray, List.set_cons_zero, List.set_cons_succ]
          refine wpAnyH_take (i := 34) (v := ?_) hop4_9_34 (by kernel_rfl) (by kernel_rfl) (by kernel_rfl) (fun _ _ _ h => h) (Or.inl ⟨by rfl, ?hyatf23⟩) (by assumption) ?restatf23
          case hyatf23 => (intro w hSw; (try dsimp only at hSw); go_simp; first | (with_reducible rfl) | (rw [if_neg (by omega)]) | skip)
          simp only [Act.put, List.setIfInBounds_toArray, List.set_cons_zero, List.set_cons_succ]
          refine wpAnyH_done (by kernel_rfl) ?_ _
          refine NoPanic.normal ?_
          exact HQ.out _ _ _ _ _ _ _ _ _ _ _ _ _ _ _ _ _ _ _ _ _ _ _ _ _ _ _ _ _ _ _ _ _ _ _ hHeld.1
        refine AllReadyH.cons hop4_9_19 (fun K hK => ?_) ?_
        · go_simp
          go_at_call 35; (with_reducible refine (HR4.out _).mono ?_); rintro e w1 ⟨rfl, hb1⟩; (try have HO := hid (own_below HO.out hb1))
          refine hK.out _ _ ?_ (fun hHeld => ?_)
          · (try dsimp only); exact keepS HC.out (hHeld.1.trans (hb1.mono hHeld.1.size))
          clear hK K
          try simp only [Act.put, List.setIfInBounds_toArray, List.set_cons_zero, List.set_cons_succ]
          refine wpAnyH_ready (rs := [15]) (by kernel_rfl) (by simp) ?_
          refine AllReadyH.cons hop4_9_15 (fun K hK => ?_) AllReadyH.nil
          have hcv := own_convE HO.out HE2.out
          go_simp
          refine hK.out _ _ ?_ (fun hHeld => ?_)
          · (try dsimp only); exact hHeld
          clear hK K
          try simp only [Act.put, List.setIfInBounds_toArray, List.set_cons_zero, List.set_cons_succ]
          refine wpAnyH_take (i := 20) (v := ?_) hop4_9_20 (by kernel_rfl) (by kernel_rfl) (by kernel_rfl) (fun _ _ _ h => h) (Or.inl ⟨by rfl, ?hyatf24⟩) (by assumption) ?restatf24
          case hyatf24 => (intro w hSw; (try dsimp only at hSw); go_simp; first | (with_reducible rfl) | (rw [if_neg (by omega)]) | skip)
          simp only [Act.put, List.setIfInBounds_toArray, List.set_cons_zero, List.set_cons_succ]
          refine wpAnyH_take (i := 21) (v := ?_) hop4_9_21 (by kernel_rfl) (by kernel_rfl) (by kernel_rfl) (fun _ _ _ h => h) (Or.inl ⟨by rfl, ?hyatf25⟩) (by assumption) ?restatf25
          case hyatf25 => (intro w hSw; (try dsimp only at hSw); go_simp; first | (with_reducible rfl) | (rw [if_neg (by omega)]) | skip)
          simp only [Act.put, List.setIfInBounds_toArray, List.set_cons_zero, List.set_cons_succ]
          refine wpAnyH_take (i := 22) (v := ?_) hop4_9_22 (by kernel_rfl) (by kernel_rfl) (by kernel_rfl) (fun _ _ _ h => h) (Or.inl ⟨by rfl, ?hyatf26⟩) (by assumption) ?restatf26
          case hyatf26 => (intro w hSw; (try dsimp only at hSw); go_simp; first | (with_reducible rfl) | (rw [if_neg (by omega)]) | skip)
          simp only [Act.put, List.setIfInBounds_toArray, List.set_cons_zero, List.set_cons_succ]
          refine wpAnyH_take (i := 23) (v := ?_) hop4_9_23 (by kernel_rfl) (by kernel_rfl) (by kernel_rfl) (fun _ _ _ h => h) (Or.inl ⟨by rfl, ?hyatf27⟩) (by assumption) ?restatf27
          case hyatf27 => (intro w hSw; (try dsimp only at hSw); go_simp; first | (with_reducible rfl) | (rw [if_neg (by omega)]) | skip)
          simp only [Act.put, List.setIfInBounds_toArray, List.set_cons_zero, List.set_cons_succ]
          refine wpAnyH_take (i := 24) (v := ?_) hop4_9_24 (by kernel_rfl) (by kernel_rfl) (by kernel_rfl) (fun _ _ _ h => h) (Or.inl ⟨by rfl, ?hyatf28⟩) (by assumption) ?restatf28
          case hyatf28 => (intro w hSw; (try dsimp only at hSw); go_simp; first | (with_reducible rfl) | (rw [if_neg (by omega)]) | skip)
          simp only [Act.put, List.setIfInBounds_toArray, List.set_cons_zero, List.set_cons_succ]
          refine wpAnyH_take (i := 25) (v := ?_) hop4_9_25 (by kernel_rfl) (by kernel_rfl) (by kernel_rfl) (fun _ _ _ h => h) (Or.inl ⟨by rfl, ?hyatf29⟩) (by assumption) ?restatf29
          case hyatf29 => (intro w hSw; (try dsimp only at hSw); go_simp; first | (with_reducible rfl) | (rw [if_neg (by omega)]) | skip)
          simp only [Act.put, List.setIfInBounds_toArray, List.set_cons_zero, List.set_cons_succ]
          refine wpAnyH_take (i := 26) (v := undef) hop4_9_26 (by kernel_rfl) (by kernel_rfl) (by kernel_rfl) (fun _ _ _ h => h) (Or.inr ⟨by rfl, rfl⟩) (by assumption) ?_
          simp only [Act.put, List.setIfInBounds_toArray, List.set_cons_zero, List.set_cons_succ]
          refine wpAnyH_take (i := 27) (v := undef) hop4_9_27 (by kernel_rfl) (by kernel_rfl) (by kernel_rfl) (fun _ _ _ h => h) (Or.inr ⟨by rfl, rfl⟩) (by assumption) ?_
          simp only [Act.put, List.setIfInBounds_toArray, List.set_cons_zero, List.set_cons_succ]
          refine wpAnyH_take (i := 28) (v := undef) hop4_9_28 (by kernel_rfl) (by kernel_rfl) (by kernel_rfl) (fun _ _ _ h => h) (Or.inr ⟨by rfl, rfl⟩) (by assumption) ?_
          simp only [Act.put, List.setIfInBounds_toArray, List.set_cons_zero, List.set_cons_succ]
          refine wpAnyH_take (i := 29) (v := undef) hop4_9_29 (by kernel_rfl) (by kernel_rfl) (by kernel_rfl) (fun _ _ _ h => h) (Or.inr ⟨by rfl, rfl⟩) (by assumption) ?_
          simp only [Act.put, List.setIfInBounds_toArray, List.set_cons_zero, List.set_cons_succ]
          refine wpAnyH_take (i := 30) (v := undef) hop4_9_30 (by kernel_rfl) (by kernel_rfl) (by kernel_rfl) (fun _ _ _ h => h) (Or.inr ⟨by rfl, rfl⟩) (by assumption) ?_
          simp only [Act.put, List.setIfInBounds_toArray, List.set_cons_zero, List.set_cons_succ]
          refine wpAnyH_take (i := 31) (v := undef) hop4_9_31 (by kernel_rfl) (by kernel_rfl) (by kernel_rfl) (fun _ _ _ h => h) (Or.inr ⟨by rfl, rfl⟩) (by assumption) ?_
          simp only [Act.put, List.setIfInBounds_toArray, List.set_cons_zero, List.set_cons_succ]
          refine wpAnyH_take (i := 32) (v := undef) hop4_9_32 (by kernel_rfl) (by kernel_rfl) (by kernel_rfl) (fun _ _ _ h => h) (Or.inr ⟨by rfl, rfl⟩) (by assumption) ?_
          simp only [Act.put, List.setIfInBounds_toArray, List.set_cons_zero, List.set_cons_succ]
          refine wpAnyH_take (i := 33) (v := ?_) hop4_9_33 (by kernel_rfl) (by kernel_rfl) (by kernel_rfl) (fun _ _ _ h => h) (Or.inl ⟨by rfl, ?hyatf30⟩) (by assumption) ?restatf30
          case hyatf30 => (intro w hSw; (try dsimp only at hSw); go_simp; first | (with_reducible rfl) | (rw [if_neg (by omega)]) | skip)
          simp only [Act.put, List.setIfInBounds_toArray, List.set_cons_zero, List.set_cons_succ]
          refine wpAnyH_take (i := 34) (v := ?_) hop4_9_34 (by kernel_rfl) (by kernel_rfl) (by kernel_rfl) (fun _ _ _ h => h) (Or.inl ⟨by rfl, ?hyatf31⟩) (by assumption) ?restatf31
          case hyatf31 => (intro w hSw; (try dsimp only at hSw); go_simp; first | (with_reducible rfl) | (rw [if_neg (by omega)]) | skip)
          simp only [Act.put, List.setIfInBounds_toArray, List.set_cons_zero, List.set_cons_succ]
          refine wpAnyH_done (by kernel_rfl) ?_ _
          refine NoPanic.normal ?_
          exact HQ.out _ _ _ _ _ _ _ _ _ _ _ _ _ _ _ _ _ _ _ _ _ _ _ _ _ _ _ _ _ _ _ _ _ _ _ hHeld.1
        exact AllReadyH.nil
      refine AllReadyH.cons hop4_9_8 (fun K hK => ?_) ?_
      · go_simp
        go_at_call 33; (with_reducible refine (HR2.out _).mono ?_); rintro e w1 ⟨rfl, hb1⟩; (try have HO := hid (own_below HO.out hb1))
        refine hK.out _ _ ?_ (fun hHeld => ?_)
        · (try dsimp only); exact keepS HC.out (hHeld.1.trans (hb1.mono hHeld.1.size))
        clear hK K
        try simp only [Act.put, List.setIfInBounds_toArray, List.set_cons_zero, List.set_cons_succ]
        refine wpAnyH_take (i := 9) (v := ?_) hop4_9_9 (by kernel_rfl) (by kernel_rfl) (by kernel_rfl) (fun _ _ _ h => h) (Or.inl ⟨by rfl, ?hyatf32⟩) (by assumption) ?restatf32
        case hyatf32 => (intro w hSw; (try dsimp only at hSw); go_simp; first | (with_reducible rfl) | (rw [if_neg (by omega)]) | skip)
        simp only [Act.put, List.setIfInBounds_toArray, List.set_cons_zero, List.set_cons_succ]
        refine wpAnyH_ready (rs := [5]) (by kernel_rfl) (by simp) ?_
        refine AllReadyH.cons hop4_9_5 (fun K hK => ?_) AllReadyH.nil
        have hcv := own_convE HO.out HE1.out
        go_simp
        refine hK.out _ _ ?_ (fun hHeld => ?_)
        · (try dsimp only); exact hHeld
        clear hK K
        try simp only [Act.put, List.setIfInBounds_toArray, List.set_cons_zero, List.set_cons_succ]
        refine wpAnyH_take (i := 10) (v := ?_) hop4_9_10 (by kernel_rfl) (by kernel_rfl) (by kernel_rfl) (fun _ _ _ h => h) (Or.inl ⟨by rfl, ?hyatf33⟩) (by assumption) ?restatf33
        case hyatf33 => (intro w hSw; (try dsimp only at hSw); go_simp; first | (with_reducible rfl) | (rw [if_neg (by omega)]) | skip)
        simp only [Act.put, List.setIfInBounds_toArray, List.set_cons_zero, List.set_cons_succ]
        refine wpAnyH_take (i := 11) (v := ?_) hop4_9_11 (by kernel_rfl) (by kernel_rfl) (by kernel_rfl) (fun _ _ _ h => h) (Or.inl ⟨by rfl, ?hyatf34⟩) (by assumption) ?restatf34
        case hyatf34 => (intro w hSw; (try dsimp only at hSw); go_simp; first | (with_reducible rfl) | (rw [if_neg (by omega)]) | skip)
        simp only [Act.put, List.setIfInBounds_toArray, List.set_cons_zero, List.set_cons_succ]
        refine wpAnyH_take (i := 12) (v := ?_) hop4_9_12 (by kernel_rfl) (by kernel_rfl) (by kernel_rfl) (fun _ _ _ h => h) (Or.inl ⟨by rfl, ?hyatf35⟩) (by assumption) ?restatf35
        case hyatf35 => (intro w hSw; (try dsimp only at hSw); go_simp; first | (with_reducible rfl) | (rw [if_neg (by omega)]) | skip)
        simp only [Act.put, List.setIfInBounds_toArray, List.set_cons_zero, List.set_cons_succ]
        refine wpAnyH_take (i := 13) (v := ?_) hop4_9_13 (by kernel_rfl) (by kernel_rfl) (by kernel_rfl) (fun _ _ _ h => h) (Or.inl ⟨by rfl, ?hyatf36⟩) (by assumption) ?restatf36
        case hyatf36 => (intro w hSw; (try dsimp only at hSw); go_simp; first | (with_reducible rfl) | (rw [if_neg (by omega)]) | skip)
        simp only [Act.put, List.setIfInBounds_toArray, List.set_cons_zero, List.set_cons_succ]
        refine wpAnyH_take (i := 16) (v := ?_) hop4_9_16 (by kernel_rfl) (by kernel_rfl) (by kernel_rfl) (fun _ _ _ h => h) (Or.inl ⟨by rfl, ?hyatf37⟩) (by assumption) ?restatf37
        case hyatf37 => (intro w hSw; (try dsimp only at hSw); go_simp; first | (with_reducible rfl) | (rw [if_neg (by omega)]) | skip)
        simp only [Act.put, List.setIfInBounds_toArray, List.set_cons_zero, List.set_cons_succ]
        refine wpAnyH_take (i := 17) (v := ?_) hop4_9_17 (by kernel_rfl) (by kernel_rfl) (by kernel_rfl) (fun _ _ _ h => h) (Or.inl ⟨by rfl, ?hyatf38⟩) (by assumption) ?restatf38
        case hyatf38 => (intro w hSw; (try dsimp only at hSw); go_simp; first | (with_reducible rfl) | (rw [if_neg (by omega)]) | skip)
        simp only [Act.put, List.setIfInBounds_toArray, List.set_cons_zero, List.set_cons_succ]
        refine wpAnyH_take (i := 18) (v := ?_) hop4_9_18 (by kernel_rfl) (by kernel_rfl) (by kernel_rfl) (fun _ _ _ h => h) (Or.inl ⟨by rfl, ?hyatf39⟩) (by assumption) ?restatf39
        case hyatf39 => (intro w hSw; (try dsimp only at hSw); go_simp; first | (with_reducible rfl) | (rw [if_neg (by omega)]) | skip)
        simp only [Act.put, List.setIfInBounds_toArray, List.set_cons_zero, List.set_cons_succ]
        refine wpAnyH_ready (rs := [14]) (by kernel_rfl) (by simp) ?_
        refine AllReadyH.cons hop4_9_14 (fun K hK => ?_) AllReadyH.nil
        go_simp
        go_at_call 34; (with_reducible refine (HR3.out _ hHeld.1).mono ?_); rintro e w1 ⟨v2, rfl, ho, hb1⟩; have HO := ho; clear ho
        refine hK.out _ _ ?_ (fun hHeld => ?_)
        · (try dsimp only); exact keepS HC.out (hHeld.1.trans (hb1.mono hHeld.1.size))
        clear hK K
        try simp only [Act.put, List.setIfInBounds_toArray, List.set_cons_zero, List.set_cons_succ]
        refine wpAnyH_ready (rs := [15, 19]) (by kernel_rfl) (by simp) ?_
        refine AllReadyH.cons hop4_9_15 (fun K hK => ?_) ?_
        · have hcv := own_convE HO.out HE2.out
          go_simp
          refine hK.out _ _ ?_ (fun hHeld => ?_)
          · (try dsimp only); exact hHeld
          clear hK K
          try simp only [Act.put, List.setIfInBounds_toArray, List.set_cons_zero, List.set_cons_succ]
          refine wpAnyH_ready (rs := [19]) (by kernel_rfl) (by simp) ?_
          refine AllReadyH.cons hop4_9_19 (fun K hK => ?_) AllReadyH.nil
          go_simp
          go_at_call 35; (with_reducible refine (HR4.out _).mono ?_); rintro e w1 ⟨rfl, hb1⟩; (try have HO := hid (own_below HO.out hb1))
          refine hK.out _ _ ?_ (fun hHeld => ?_)
          · (try dsimp only); exact keepS HC.out (hHeld.1.trans (hb1.mono hHeld.1.size))
          clear hK K
          try simp only [Act.put, List.setIfInBounds_toArray, List.set_cons_zero, List.set_cons_succ]
          refine wpAnyH_take (i := 20) (v := ?_) hop4_9_20 (by kernel_rfl) (by kernel_rfl) (by kernel_rfl) (fun _ _ _ h => h) (Or.inl ⟨by rfl, ?hyatf40⟩) (by assumption) ?restatf40
          case hyatf40 => (intro w hSw; (try dsimp only at hSw); go_simp; first | (with_reducible rfl) | (rw [if_neg (by omega)]) | skip)
          simp only [Act.put, List.setIfInBounds_toArray, List.set_cons_zero, List.set_cons_succ]
          refine wpAnyH_take (i := 21) (v := ?_) hop4_9_21 (by kernel_rfl) (by kernel_rfl) (by kernel_rfl) (fun _ _ _ h => h) (Or.inl ⟨by rfl, ?hyatf41⟩) (by assumption) ?restatf41
          case hyatf41 => (intro w hSw; (try dsimp only at hSw); go_simp; first | (with_reducible rfl) | (rw [if_neg (by omega)]) | skip)
          simp only [Act.put, List.setIfInBounds_toArray, List.set_cons_zero, List.set_cons_succ]
          refine wpAnyH_take (i := 22) (v := ?_) hop4_9_22 (by kernel_rfl) (by kernel_rfl) (by kernel_rfl) (fun _ _ _ h => h) (Or.inl ⟨by rfl, ?hyatf42⟩) (by assumption) ?restatf42
          case hyatf42 => (intro w hSw; (try dsimp only at hSw); go_simp; first | (with_reducible rfl) | (rw [if_neg (by omega)]) | skip)
          simp only [Act.put, List.setIfInBounds_toArray, List.set_cons_zero, List.set_cons_succ]
          refine wpAnyH_take (i := 23) (v := ?_) hop4_9_23 (by kernel_rfl) (by kernel_rfl) (by kernel_rfl) (fun _ _ _ h => h) (Or.inl ⟨by rfl, ?hyatf43⟩) (by assumption) ?restatf43
          case hyatf43 => (intro w hSw; (try dsimp only at hSw); go_simp; first | (with_reducible rfl) | (rw [if_neg (by omega)]) | skip)
          simp only [Act.put, List.setIfInBounds_toArray, List.set_cons_zero, List.set_cons_succ]
          refine wpAnyH_take (i := 24) (v := ?_) hop4_9_24 (by kernel_rfl) (by kernel_rfl) (by kernel_rfl) (fun _ _ _ h => h) (Or.inl ⟨by rfl, ?hyatf44⟩) (by assumption) ?restatf44
          case hyatf44 => (intro w hSw; (try dsimp only at hSw); go_simp; first | (with_reducible rfl) | (rw [if_neg (by omega)]) | skip)
          simp only [Act.put, List.setIfInBounds_toArray, List.set_cons_zero, List.set_cons_succ]
          refine wpAnyH_take (i := 25) (v := ?_) hop4_9_25 (by kernel_rfl) (by kernel_rfl) (by kernel_rfl) (fun _ _ _ h => h) (Or.inl ⟨by rfl, ?hyatf45⟩) (by assumption) ?restatf45
          case hyatf45 => (intro w hSw; (try dsimp only at hSw); go_simp; first | (with_reducible rfl) | (rw [if_neg (by omega)]) | skip)
          simp only [Act.put, List.setIfInBounds_toArray, List.set_cons_zero, List.set_cons_succ]
          refine wpAnyH_take (i := 26) (v := undef) hop4_9_26 (by kernel_rfl) (by kernel_rfl) (by kernel_rfl) (fun _ _ _ h => h) (Or.inr ⟨by rfl, rfl⟩) (by assumption) ?_
          simp only [Act.put, List.setIfInBounds_toArray, List.set_cons_zero, List.set_cons_succ]
          refine wpAnyH_take (i := 27) (v := undef) hop4_9_27 (by kernel_rfl) (by kernel_rfl) (by kernel_rfl) (fun _ _ _ h => h) (Or.inr ⟨by rfl, rfl⟩) (by assumption) ?_
          simp only [Act.put, List.setIfInBounds_toArray, List.set_cons_zero, List.set_cons_succ]
          refine wpAnyH_take (i := 28) (v := undef) hop4_9_28 (by kernel_rfl) (by kernel_rfl) (by kernel_rfl) (fun _ _ _ h => h) (Or.inr ⟨by rfl, rfl⟩) (by assumption) ?_
          simp only [Act.put, List.setIfInBounds_toArray, List.set_cons_zero, List.set_cons_succ]
          refine wpAnyH_take (i := 29) (v := undef) hop4_9_29 (by kernel_rfl) (by kernel_rfl) (by kernel_rfl) (fun _ _ _ h => h) (Or.inr ⟨by rfl, rfl⟩) (by assumption) ?_
          simp only [Act.put, List.setIfInBounds_toArray, List.set_cons_zero, List.set_cons_succ]
          refine wpAnyH_take (i := 30) (v := undef) hop4_9_30 (by kernel_rfl) (by kernel_rfl) (by kernel_rfl) (fun _ _ _ h => h) (Or.inr ⟨by rfl, rfl⟩) (by assumption) ?_
          simp only [Act.put, List.setIfInBounds_toArray, List.set_cons_zero, List.set_cons_succ]
          refine wpAnyH_take (i := 31) (v := undef) hop4_9_31 (by kernel_rfl) (by kernel_rfl) (by kernel_rfl) (fun _ _ _ h => h) (Or.inr ⟨by rfl, rfl⟩) (by assumption) ?_
          simp only [Act.put, List.setIfInBounds_toArray, List.set_cons_zero, List.set_cons_succ]
          refine wpAnyH_take (i := 32) (v := undef) hop4_9_32 (by kernel_rfl) (by kernel_rfl) (by kernel_rfl) (fun _ _ _ h => h) (Or.inr ⟨by rfl, rfl⟩) (by assumption) ?_
          simp only [Act.put, List.setIfInBounds_toArray, List.set_cons_zero, List.set_cons_succ]
          refine wpAnyH_take (i := 33) (v := ?_) hop4_9_33 (by kernel_rfl) (by kernel_rfl) (by kernel_rfl) (fun _ _ _ h => h) (Or.inl ⟨by rfl, ?hyatf46⟩) (by assumption) ?restatf46
          case hyatf46 => (intro w hSw; (try dsimp only at hSw); go_simp; first | (with_reducible rfl) | (rw [if_neg (by omega)]) | skip)
          simp only [Act.put, List.setIfInBounds_toArray, List.set_cons_zero, List.set_cons_succ]
          refine wpAnyH_take (i := 34) (v := ?_) hop4_9_34 (by kernel_rfl) (by kernel_rfl) (by kernel_rfl) (fun _ _ _ h => h) (Or.inl ⟨by rfl, ?hyatf47⟩) (by assumption) ?restatf47
          case hyatf47 => (intro w hSw; (try dsimp only at hSw); go_simp; first | (with_reducible rfl) | (rw [if_neg (by omega)]) | skip)
          simp only [Act.put, List.setIfInBounds_toArray, List.set_cons_zero, List.set_cons_succ]
          refine wpAnyH_done (by kernel_rfl) ?_ _
          refine NoPanic.normal ?_
          exact HQ.out _ _ _ _ _ _ _ _ _ _ _ _ _ _ _ _ _ _ _ _ _ _ _ _ _ _ _ _ _ _ _ _ _ _ _ hHeld.1
        refine AllReadyH.cons hop4_9_19 (fun K hK => ?_) ?_
        · go_simp
          go_at_call 35; (with_reducible refine (HR4.out _).mono ?_); rintro e w1 ⟨rfl, hb1⟩; (try have HO := hid (own_below HO.out hb1))
          refine hK.out _ _ ?_ (fun hHeld => ?_)
          · (try dsimp only); exact keepS HC.out (hHeld.1.trans (hb1.mono hHeld.1.size))
          clear hK K
          try simp only [Act.put, List.setIfInBounds_toArray, List.set_cons_zero, List.set_cons_succ]
          refine wpAnyH_ready (rs := [15]) (by kernel_rfl) (by simp) ?_
          refine AllReadyH.cons hop4_9_15 (fun K hK => ?_) AllReadyH.nil
          have hcv := own_convE HO.out HE2.out
          go_simp
          refine hK.out _ _ ?_ (fun hHeld => ?_)
          · (try dsimp only); exact hHeld
          clear hK K
          try simp only [Act.put, List.setIfInBounds_toArray, List.set_cons_zero, List.set_cons_succ]
          refine wpAnyH_take (i := 20) (v := ?_) hop4_9_20 (by kernel_rfl) (by kernel_rfl) (by kernel_rfl) (fun _ _ _ h => h) (Or.inl ⟨by rfl, ?hyatf48⟩) (by assumption) ?restatf48
          case hyatf48 => (intro w hSw; (try dsimp only at hSw); go_simp; first | (with_reducible rfl) | (rw [if_neg (by omega)]) | skip)
          simp only [Act.put, List.setIfInBounds_toArray, List.set_cons_zero, List.set_cons_succ]
          refine wpAnyH_take (i := 21) (v := ?_) hop4_9_21 (by kernel_rfl) (by kernel_rfl) (by kernel_rfl) (fun _ _ _ h => h) (Or.inl ⟨by rfl, ?hyatf49⟩) (by assumption) ?restatf49
          case hyatf49 => (intro w hSw; (try dsimp only at hSw); go_simp; first | (with_reducible rfl) | (rw [if_neg (by omega)]) | skip)
          simp only [Act.put, List.setIfInBounds_toArray, List.set_cons_zero, List.set_cons_succ]
          refine wpAnyH_take (i := 22) (v := ?_) hop4_9_22 (by kernel_rfl) (by kernel_rfl) (by kernel_rfl) (fun _ _ _ h => h) (Or.inl ⟨by rfl, ?hyatf50⟩) (by assumption) ?restatf50
          case hyatf50 => (intro w hSw; (try dsimp only at hSw); go_simp; first | (with_reducible rfl) | (rw [if_neg (by omega)]) | skip)
          simp only [Act.put, List.setIfInBounds_toArray, List.set_cons_zero, List.set_cons_succ]
          refine wpAnyH_take (i := 23) (v := ?_) hop4_9_23 (by kernel_rfl) (by kernel_rfl) (by kernel_rfl) (fun _ _ _ h => h) (Or.inl ⟨by rfl, ?hyatf51⟩) (by assumption) ?restatf51
          case hyatf51 => (intro w hSw; (try dsimp only at hSw); go_simp; first | (with_reducible rfl) | (rw [if_neg (by omega)]) | skip)
          simp only [Act.put, List.setIfInBounds_toArray, List.set_cons_zero, List.set_cons_succ]
          refine wpAnyH_take (i := 24) (v := ?_) hop4_9_24 (by kernel_rfl) (by kernel_rfl) (by kernel_rfl) (fun _ _ _ h => h) (Or.inl ⟨by rfl, ?hyatf52⟩) (by assumption) ?restatf52
          case hyatf52 => (intro w hSw; (try dsimp only at hSw); go_simp; first | (with_reducible rfl) | (rw [if_neg (by omega)]) | skip)
          simp only [Act.put, List.setIfInBounds_toArray, List.set_cons_zero, List.set_cons_succ]
          refine wpAnyH_take (i := 25) (v := ?_) hop4_9_25 (by kernel_rfl) (by kernel_rfl) (by kernel_rfl) (fun _ _ _ h => h) (Or.inl ⟨by rfl, ?hyatf53⟩) (by assumption) ?restatf53
          case hyatf53 => (intro w hSw; (try dsimp only at hSw); go_simp; first | (with_reducible rfl) | (rw [if_neg (by omega)]) | skip)
          simp only [Act.put, List.setIfInBounds_toArray, List.set_cons_zero, List.set_cons_succ]
          refine wpAnyH_take (i := 26) (v := undef) hop4_9_26 (by kernel_rfl) (by kernel_rfl) (by kernel_rfl) (fun _ _ _ h => h) (Or.inr ⟨by rfl, rfl⟩) (by assumption) ?_
          simp only [Act.put, List.setIfInBounds_toArray, List.set_cons_zero, List.set_cons_succ]
          refine wpAnyH_take (i := 27) (v := undef) hop4_9_27 (by kernel_rfl) (by kernel_rfl) (by kernel_rfl) (fun _ _ _ h => h) (Or.inr ⟨by rfl, rfl⟩) (by assumption) ?_
          simp only [Act.put, List.setIfInBounds_toArray, List.set_cons_zero, List.set_cons_succ]
          refine wpAnyH_take (i := 28) (v := undef) hop4_9_28 (by kernel_rfl) (by kernel_rfl) (by kernel_rfl) (fun _ _ _ h => h) (Or.inr ⟨by rfl, rfl⟩) (by assumption) ?_
          simp only [Act.put, List.setIfInBounds_toArray, List.set_cons_zero, List.set_cons_succ]
          refine wpAnyH_take (i := 29) (v := undef) hop4_9_29 (by kernel_rfl) (by kernel_rfl) (by kernel_rfl) (fun _ _ _ h => h) (Or.inr ⟨by rfl, rfl⟩) (by assumption) ?_
          simp only [Act.put, List.setIfInBounds_toArray, List.set_cons_zero, List.set_cons_succ]
          refine wpAnyH_take (i := 30) (v := undef) hop4_9_30 (by kernel_rfl) (by kernel_rfl) (by kernel_rfl) (fun _ _ _ h => h) (Or.inr ⟨by rfl, rfl⟩) (by assumption) ?_
          simp only [Act.put, List.setIfInBounds_toArray, List.set_cons_zero, List.set_cons_succ]
          refine wpAnyH_take (i := 31) (v := undef) hop4_9_31 (by kernel_rfl) (by kernel_rfl) (by kernel_rfl) (fun _ _ _ h => h) (Or.inr ⟨by rfl, rfl⟩) (by assumption) ?_
          simp only [Act.put, List.setIfInBounds_toArray, List.set_cons_zero, List.set_cons_succ]
          refine wpAnyH_take (i := 32) (v := undef) hop4_9_32 (by kernel_rfl) (by kernel_rfl) (by kernel_rfl) (fun _ _ _ h => h) (Or.inr ⟨by rfl, rfl⟩) (by assumption) ?_
          simp only [Act.put, List.setIfInBounds_toArray, List.set_cons_zero, List.set_cons_succ]
          refine wpAnyH_take (i := 33) (v := ?_) hop4_9_33 (by kernel_rfl) (by kernel_rfl) (by kernel_rfl) (fun _ _ _ h => h) (Or.inl ⟨by rfl, ?hyatf54⟩) (by assumption) ?restatf54
          case hyatf54 => (intro w hSw; (try dsimp only at hSw); go_simp; first | (with_reducible rfl) | (rw [if_neg (by omega)]) | skip)
          simp only [Act.put, List.setIfInBounds_toArray, List.set_cons_zero, List.set_cons_succ]
          refine wpAnyH_take (i := 34) (v := ?_) hop4_9_34 (by kernel_rfl) (by kernel_rfl) (by kernel_rfl) (fun _ _ _ h => h) (Or.inl ⟨by rfl, ?hyatf55⟩) (by assumption) ?restatf55
          case hyatf55 => (intro w hSw; (try dsimp only at hSw); go_simp; first | (with_reducible rfl) | (rw [if_neg (by omega)]) | skip)
          simp only [Act.put, List.setIfInBounds_toArray, List.set_cons_zero, List.set_cons_succ]
          refine wpAnyH_done (by kernel_rfl) ?_ _
          refine NoPanic.normal ?_
          exact HQ.out _ _ _ _ _ _ _ _ _ _ _ _ _ _ _ _ _ _ _ _ _ _ _ _ _ _ _ _ _ _ _ _ _ _ _ hHeld.1
        exact AllReadyH.nil
      exact AllReadyH.nil
  | false =>
    cases bl with
    | true =>
      refine wp_region_noPanic ?_
      refine wp_region_held_drew (S := (fun W => Below wb.heap.size wb W ∧ W.cell? ⟨X, 0, none⟩ = some (.int .u8 vv) ∧ W.cell? ⟨X, 1, none⟩ = some (.string p) ∧ W.cell? ⟨X, 2, none⟩ = some (.string r) ∧ W.cell? ⟨X, 3, none⟩ = some (.bool lm) ∧ W.cell? ⟨X, 4, none⟩ = some (.int .u32 la) ∧ W.cell? ⟨X, 5, none⟩ = some (.int .u32 lb) ∧ W.cell? ⟨X, 6, none⟩ = some (.int .u8 tv) ∧ W.cell? ⟨X, 7, none⟩ = some (.bool tm) ∧ W.cell? ⟨X, 8, none⟩ = some (.int .u32 ta) ∧ W.cell? ⟨X, 9, none⟩ = some (.int .u32 tb) ∧ W.cell? ⟨X, 10, none⟩ = some (.int .u8 gv) ∧ W.cell? ⟨X, 11, none⟩ = some (.bool gm) ∧ W.cell? ⟨Y, 0, none⟩ = some (.string s) ∧ W.cell? ⟨Y, 1, none⟩ = some (.string u) ∧ W.cell? ⟨g5, 0, none⟩ = some (.slice A0 (bytesOf p).length c0) ∧ W.cell? ⟨g5, 1, none⟩ = some (.slice A1 (bytesOf r).length c1) ∧ W.cell? ⟨g6, 0, none⟩ = some (.bool lm) ∧ W.cell? ⟨g6, 1, none⟩ = some (.int .u32 la) ∧ W.cell? ⟨g6, 2, none⟩ = some (.int .u32 lb) ∧ W.cell? ⟨g7, 0, none⟩ = some (.int .u8 tv) ∧ W.cell? ⟨g7, 1, none⟩ = some (.bool tm) ∧ W.cell? ⟨g7, 2, none⟩ = some (.int .u32 ta) ∧ W.cell? ⟨g7, 3, none⟩ = some (.int .u32 tb) ∧ W.cell? ⟨g8, 0, none⟩ = some (.int .u8 gv) ∧ W.cell? ⟨g8, 1, none⟩ = some (.bool gm))) (by kernel_rfl) ?hSaft1 (fun hHeld => ?goaft1)
      case hSaft1 => exact keepS HC.out HB.out.drew
      refine wpAnyH_take (i := 0) (v := ?_) hop4_9_0 (by kernel_rfl) (by kernel_rfl) (by kernel_rfl) (fun _ _ _ h => h) (Or.inl ⟨by rfl, ?hyaft2⟩) (by assumption) ?restaft2
      case hyaft2 => (intro w hSw; (try dsimp only at hSw); go_simp; first | (with_reducible rfl) | (rw [if_neg (by omega)]) | skip)
      simp only [Act.put, List.setIfInBounds_toArray, List.set_cons_zero, List.set_cons_succ]
      refine wpAnyH_take (i := 1) (v := ?_) hop4_9_1 (by kernel_rfl) (by kernel_rfl) (by kernel_rfl) (fun _ _ _ h => h) (Or.inl ⟨by rfl, ?hyaft3⟩) (by assumption) ?restaft3
      case hyaft3 => (intro w hSw; (try dsimp only at hSw); go_simp; first | (with_reducible rfl) | (rw [if_neg (by omega)]) | skip)
      simp only [Act.put, List.setIfInBounds_toArray, List.set_cons_zero, List.set_cons_succ]
      refine wpAnyH_take (i := 2) (v := undef) hop4_9_2 (by kernel_rfl) (by kernel_rfl) (by kernel_rfl) (fun _ _ _ h => h) (Or.inr ⟨by rfl, rfl⟩) (by assumption) ?_
      simp only [Act.put, List.setIfInBounds_toArray, List.set_cons_zero, List.set_cons_succ]
      refine wpAnyH_take (i := 3) (v := undef) hop4_9_3 (by kernel_rfl) (by kernel_rfl) (by kernel_rfl) (fun _ _ _ h => h) (Or.inr ⟨by rfl, rfl⟩) (by assumption) ?_
      simp only [Act.put, List.setIfInBounds_toArray, List.set_cons_zero, List.set_cons_succ]
      refine wpAnyH_take (i := 4) (v := undef) hop4_9_4 (by kernel_rfl) (by kernel_rfl) (by kernel_rfl) (fun _ _ _ h => h) (Or.inr ⟨by rfl, rfl⟩) (by assumption) ?_
      simp only [Act.put, List.setIfInBounds_toArray, List.set_cons_zero, List.set_cons_succ]
      refine wpAnyH_take (i := 5) (v := undef) hop4_9_5 (by kernel_rfl) (by kernel_rfl) (by kernel_rfl) (fun _ _ _ h => h) (Or.inr ⟨by rfl, rfl⟩) (by assumption) ?_
      simp only [Act.put, List.setIfInBounds_toArray, List.set_cons_zero, List.set_cons_succ]
      refine wpAnyH_take (i := 6) (v := undef) hop4_9_6 (by kernel_rfl) (by kernel_rfl) (by kernel_rfl) (fun _ _ _ h => h) (Or.inr ⟨by rfl, rfl⟩) (by assumption) ?_
      simp only [Act.put, List.setIfInBounds_toArray, List.set_cons_zero, List.set_cons_succ]
      refine wpAnyH_take (i := 7) (v := undef) hop4_9_7 (by kernel_rfl) (by kernel_rfl) (by kernel_rfl) (fun _ _ _ h => h) (Or.inr ⟨by rfl, rfl⟩) (by assumption) ?_
      simp only [Act.put, List.setIfInBounds_toArray, List.set_cons_zero, List.set_cons_succ]
      refine wpAnyH_take (i := 8) (v := undef) hop4_9_8 (by kernel_rfl) (by kernel_rfl) (by kernel_rfl) (fun _ _ _ h => h) (Or.inr ⟨by rfl, rfl⟩) (by assumption) ?_
      simp only [Act.put, List.setIfInBounds_toArray, List.set_cons_zero, List.set_cons_succ]
      refine wpAnyH_take (i := 9) (v := undef) hop4_9_9 (by kernel_rfl) (by kernel_rfl) (by kernel_rfl) (fun _ _ _ h => h) (Or.inr ⟨by rfl, rfl⟩) (by assumption) ?_
      simp only [Act.put, List.setIfInBounds_toArray, List.set_cons_zero, List.set_cons_succ]
      refine wpAnyH_take (i := 10) (v := undef) hop4_9_10 (by kernel_rfl) (by kernel_rfl) (by kernel_rfl) (fun _ _ _ h => h) (Or.inr ⟨by rfl, rfl⟩) (by assumption) ?_
      simp only [Act.put, List.setIfInBounds_toArray, List.set_cons_zero, List.set_cons_succ]
      refine wpAnyH_take (i := 11) (v := undef) hop4_9_11 (by kernel_rfl) (by kernel_rfl) (by kernel_rfl) (fun _ _ _ h => h) (Or.inr ⟨by rfl, rfl⟩) (by assumption) ?_
      simp only [Act.put, List.setIfInBounds_toArray, List.set_cons_zero, List.set_cons_succ]
      refine wpAnyH_take (i := 12) (v := undef) hop4_9_12 (by kernel_rfl) (by kernel_rfl) (by kernel_rfl) (fun _ _ _ h => h) (Or.inr ⟨by rfl, rfl⟩) (by assumption) ?_
      simp only [Act.put, List.setIfInBounds_toArray, List.set_cons_zero, List.set_cons_succ]
      refine wpAnyH_take (i := 13) (v := undef) hop4_9_13 (by kernel_rfl) (by kernel_rfl) (by kernel_rfl) (fun _ _ _ h => h) (Or.inr ⟨by rfl, rfl⟩) (by assumption) ?_
      simp only [Act.put, List.setIfInBounds_toArray, List.set_cons_zero, List.set_cons_succ]
      refine wpAnyH_take (i := 14) (v := undef) hop4_9_14 (by kernel_rfl) (by kernel_rfl) (by kernel_rfl) (fun _ _ _ h => h) (Or.inr ⟨by rfl, rfl⟩) (by assumption) ?_
      simp only [Act.put, List.setIfInBounds_toArray, List.set_cons_zero, List.set_cons_succ]
      refine wpAnyH_take (i := 15) (v := undef) hop4_9_15 (by kernel_rfl) (by kernel_rfl) (by kernel_rfl) (fun _ _ _ h => h) (Or.inr ⟨by rfl, rfl⟩) (by assumption) ?_
      simp only [Act.put, List.setIfInBounds_toArray, List.set_cons_zero, List.set_cons_succ]
      refine wpAnyH_take (i := 16) (v := undef) hop4_9_16 (by kernel_rfl) (by kernel_rfl) (by kernel_rfl) (fun _ _ _ h => h) (Or.inr ⟨by rfl, rfl⟩) (by assumption) ?_
      simp only [Act.put, List.setIfInBounds_toArray, List.set_cons_zero, List.set_cons_succ]
      refine wpAnyH_take (i := 17) (v := undef) hop4_9_17 (by kernel_rfl) (by kernel_rfl) (by kernel_rfl) (fun _ _ _ h => h) (Or.inr ⟨by rfl, rfl⟩) (by assumption) ?_
      simp only [Act.put, List.setIfInBounds_toArray, List.set_cons_zero, List.set_cons_succ]
      refine wpAnyH_take (i := 18) (v := undef) hop4_9_18 (by kernel_rfl) (by kernel_rfl) (by kernel_rfl) (fun _ _ _ h => h) (Or.inr ⟨by rfl, rfl⟩) (by assumption) ?_
      simp only [Act.put, List.setIfInBounds_toArray, List.set_cons_zero, List.set_cons_succ]
      refine wpAnyH_take (i := 19) (v := undef) hop4_9_19 (by kernel_rfl) (by kernel_rfl) (by kernel_rfl) (fun _ _ _ h => h) (Or.inr ⟨by rfl, rfl⟩) (by assumption) ?_
      simp only [Act.put, List.setIfInBounds_toArray, List.set_cons_zero, List.set_cons_succ]
      refine wpAnyH_take (i := 20) (v := undef) hop4_9_20 (by kernel_rfl) (by kernel_rfl) (by kernel_rfl) (fun _ _ _ h => h) (Or.inr ⟨by rfl, rfl⟩) (by assumption) ?_
      simp only [Act.put, List.setIfInBounds_toArray, List.set_cons_zero, List.set_cons_succ]
      refine wpAnyH_take (i := 21) (v := undef) hop4_9_21 (by kernel_rfl) (by kernel_rfl) (by kernel_rfl) (fun _ _ _ h => h) (Or.inr ⟨by rfl, rfl⟩) (by assumption) ?_
      simp only [Act.put, List.setIfInBounds_toArray, List.set_cons_zero, List.set_cons_succ]
      refine wpAnyH_take (i := 22) (v := ?_) hop4_9_22 (by kernel_rfl) (by kernel_rfl) (by kernel_rfl) (fun _ _ _ h => h) (Or.inl ⟨by rfl, ?hyaft4⟩) (by assumption) ?restaft4
      case hyaft4 => (intro w hSw; (try dsimp only at hSw); go_simp; first | (with_reducible rfl) | (rw [if_neg (by omega)]) | skip)
      simp only [Act.put, List.setIfInBounds_toArray, List.set_cons_zero, List.set_cons_succ]
      refine wpAnyH_take (i := 23) (v := ?_) hop4_9_23 (by kernel_rfl) (by kernel_rfl) (by kernel_rfl) (fun _ _ _ h => h) (Or.inl ⟨by rfl, ?hyaft5⟩) (by assumption) ?restaft5
      case hyaft5 => (intro w hSw; (try dsimp only at hSw); go_simp; first | (with_reducible rfl) | (rw [if_neg (by omega)]) | skip)
      simp only [Act.put, List.setIfInBounds_toArray, List.set_cons_zero, List.set_cons_succ]
      refine wpAnyH_take (i := 24) (v := ?_) hop4_9_24 (by kernel_rfl) (by kernel_rfl) (by kernel_rfl) (fun _ _ _ h => h) (Or.inl ⟨by rfl, ?hyaft6⟩) (by assumption) ?restaft6
      case hyaft6 => (intro w hSw; (try dsimp only at hSw); go_simp; first | (with_reducible rfl) | (rw [if_neg (by omega)]) | skip)
      simp only [Act.put, List.setIfInBounds_toArray, List.set_cons_zero, List.set_cons_succ]
      refine wpAnyH_take (i := 25) (v := ?_) hop4_9_25 (by kernel_rfl) (by kernel_rfl) (by kernel_rfl) (fun _ _ _ h => h) (Or.inl ⟨by rfl, ?hyaft7⟩) (by assumption) ?restaft7
      case hyaft7 => (intro w hSw; (try dsimp only at hSw); go_simp; first | (with_reducible rfl) | (rw [if_neg (by omega)]) | skip)
      simp only [Act.put, List.setIfInBounds_toArray, List.set_cons_zero, List.set_cons_succ]
      refine wpAnyH_take (i := 26) (v := ?_) hop4_9_26 (by kernel_rfl) (by kernel_rfl) (by kernel_rfl) (fun _ _ _ h => h) (Or.inl ⟨by rfl, ?hyaft8⟩) (by assumption) ?restaft8
      case hyaft8 => (intro w hSw; (try dsimp only at hSw); go_simp; first | (with_reducible rfl) | (rw [if_neg (by omega)]) | skip)
      simp only [Act.put, List.setIfInBounds_toArray, List.set_cons_zero, List.set_cons_succ]
      refine wpAnyH_take (i := 29) (v := ?_) hop4_9_29 (by kernel_rfl) (by kernel_rfl) (by kernel_rfl) (fun _ _ _ h => h) (Or.inl ⟨by rfl, ?hyaft9⟩) (by assumption) ?restaft9
      case hyaft9 => (intro w hSw; (try dsimp only at hSw); go_simp; first | (with_reducible rfl) | (rw [if_neg (by omega)]) | skip)
      simp only [Act.put, List.setIfInBounds_toArray, List.set_cons_zero, List.set_cons_succ]
      refine wpAnyH_take (i := 30) (v := ?_) hop4_9_30 (by kernel_rfl) (by kernel_rfl) (by kernel_rfl) (fun _ _ _ h => h) (Or.inl ⟨by rfl, ?hyaft10⟩) (by assumption) ?restaft10
      case hyaft10 => (intro w hSw; (try dsimp only at hSw); go_simp; first | (with_reducible rfl) | (rw [if_neg (by omega)]) | skip)
      simp only [Act.put, List.setIfInBounds_toArray, List.set_cons_zero, List.set_cons_succ]
      refine wpAnyH_ready (rs := [27]) (by kernel_rfl) (by simp) ?_
      refine AllReadyH.cons hop4_9_27 (fun K hK => ?_) AllReadyH.nil
      go_simp
      go_at_call 36; (with_reducible refine (HR5.out _).mono ?_); rintro e w1 ⟨v3, rfl, ho, hb1⟩; have HO := ho; clear ho
      refine hK.out _ _ ?_ (fun hHeld => ?_)
      · (try dsimp only); exact keepS HC.out (hHeld.1.trans (hb1.mono hHeld.1.size))
      clear hK K
      try simp only [Act.put, List.setIfInBounds_toArray, List.set_cons_zero, List.set_cons_succ]
      refine wpAnyH_ready (rs := [28, 31]) (by kernel_rfl) (by simp) ?_
      refine AllReadyH.cons hop4_9_28 (fun K hK => ?_) ?_
      · have hcv := own_convE HO.out HE3.out
        go_simp
        refine hK.out _ _ ?_ (fun hHeld => ?_)
        · (try dsimp only); exact hHeld
        clear hK K
        try simp only [Act.put, List.setIfInBounds_toArray, List.set_cons_zero, List.set_cons_succ]
        refine wpAnyH_ready (rs := [31]) (by kernel_rfl) (by simp) ?_
        refine AllReadyH.cons hop4_9_31 (fun K hK => ?_) AllReadyH.nil
        go_simp
        go_at_call 37; (with_reducible refine (HR6.out _).mono ?_); rintro e w1 ⟨rfl, hb1⟩; (try have HO := hid (own_below HO.out hb1))
        refine hK.out _ _ ?_ (fun hHeld => ?_)
        · (try dsimp only); exact keepS HC.out (hHeld.1.trans (hb1.mono hHeld.1.size))
        clear hK K
        try simp only [Act.put, List.setIfInBounds_toArray, List.set_cons_zero, List.set_cons_succ]
        refine wpAnyH_take (i := 32) (v := ?_) hop4_9_32 (by kernel_rfl) (by kernel_rfl) (by kernel_rfl) (fun _ _ _ h => h) (Or.inl ⟨by rfl, ?hyaft11⟩) (by assumption) ?restaft11
        case hyaft11 => (intro w hSw; (try dsimp only at hSw); go_simp; first | (with_reducible rfl) | (rw [if_neg (by omega)]) | skip)
        simp only [Act.put, List.setIfInBounds_toArray, List.set_cons_zero, List.set_cons_succ]
        refine wpAnyH_take (i := 33) (v := ?_) hop4_9_33 (by kernel_rfl) (by kernel_rfl) (by kernel_rfl) (fun _ _ _ h => h) (Or.inl ⟨by rfl, ?hyaft12⟩) (by assumption) ?restaft12
        case hyaft12 => (intro w hSw; (try dsimp only at hSw); go_simp; first | (with_reducible rfl) | (rw [if_neg (by omega)]) | skip)
        simp only [Act.put, List.setIfInBounds_toArray, List.set_cons_zero, List.set_cons_succ]
        refine wpAnyH_take (i := 34) (v := ?_) hop4_9_34 (by kernel_rfl) (by kernel_rfl) (by kernel_rfl) (fun _ _ _ h => h) (Or.inl ⟨by rfl, ?hyaft13⟩) (by assumption) ?restaft13
        case hyaft13 => (intro w hSw; (try dsimp only at hSw); go_simp; first | (with_reducible rfl) | (rw [if_neg (by omega)]) | skip)
        simp only [Act.put, List.setIfInBounds_toArray, List.set_cons_zero, List.set_cons_succ]
        refine wpAnyH_done (by kernel_rfl) ?_ _
        refine NoPanic.normal ?_
        exact HQ.out _ _ _ _ _ _ _ _ _ _ _ _ _ _ _ _ _ _ _ _ _ _ _ _ _ _ _ _ _ _ _ _ _ _ _ hHeld.1
      refine AllReadyH.cons hop4_9_31 (fun K hK => ?_) ?_
      · go_simp
        go_at_call 37; (with_reducible refine (HR6.out _).mono ?_); rintro e w1 ⟨rfl, hb1⟩; (try have HO := hid (own_below HO.out hb1))
        refine hK.out _ _ ?_ (fun hHeld => ?_)
        · (try dsimp only); exact keepS HC.out (hHeld.1.trans (hb1.mono hHeld.1.size))
        clear hK K
        try simp only [Act.put, List.setIfInBounds_toArray, List.set_cons_zero, List.set_cons_succ]
        refine wpAnyH_ready (rs := [28]) (by kernel_rfl) (by simp) ?_
        refine AllReadyH.cons hop4_9_28 (fun K hK => ?_) AllReadyH.nil
        have hcv := own_convE HO.out HE3.out
        go_simp
        refine hK.out _ _ ?_ (fun hHeld => ?_)
        · (try dsimp only); exact hHeld
        clear hK K
        try simp only [Act.put, List.setIfInBounds_toArray, List.set_cons_zero, List.set_cons_succ]
        refine wpAnyH_take (i := 32) (v := ?_) hop4_9_32 (by kernel_rfl) (by kernel_rfl) (by kernel_rfl) (fun _ _ _ h => h) (Or.inl ⟨by rfl, ?hyaft14⟩) (by assumption) ?restaft14
        case hyaft14 => (intro w hSw; (try dsimp only at hSw); go_simp; first | (with_reducible rfl) | (rw [if_neg (by omega)]) | skip)
        simp only [Act.put, List.setIfInBounds_toArray, List.set_cons_zero, List.set_cons_succ]
        refine wpAnyH_take (i := 33) (v := ?_) hop4_9_33 (by kernel_rfl) (by kernel_rfl) (by kernel_rfl) (fun _ _ _ h => h) (Or.inl ⟨by rfl, ?hyaft15⟩) (by assumption) ?restaft15
        case hyaft15 => (intro w hSw; (try dsimp only at hSw); go_simp; first | (with_reducible rfl) | (rw [if_neg (by omega)]) | skip)
        simp only [Act.put, List.setIfInBounds_toArray, List.set_cons_zero, List.set_cons_succ]
        refine wpAnyH_take (i := 34) (v := ?_) hop4_9_34 (by kernel_rfl) (by kernel_rfl) (by kernel_rfl) (fun _ _ _ h => h) (Or.inl ⟨by rfl, ?hyaft16⟩) (by assumption) ?restaft16
        case hyaft16 => (intro w hSw; (try dsimp only at hSw); go_simp; first | (with_reducible rfl) | (rw [if_neg (by omega)]) | skip)
        simp only [Act.put, List.setIfInBounds_toArray, List.set_cons_zero, List.set_cons_succ]
        refine wpAnyH_done (by kernel_rfl) ?_ _
        refine NoPanic.normal ?_
        exact HQ.out _ _ _ _ _ _ _ _ _ _ _ _ _ _ _ _ _ _ _ _ _ _ _ _ _ _ _ _ _ _ _ _ _ _ _ hHeld.1
      exact AllReadyH.nil
    | false =>
      refine wp_region_noPanic ?_
      refine wp_region_held_drew (S := (fun W => Below wb.heap.size wb W ∧ W.cell? ⟨X, 0, none⟩ = some (.int .u8 vv) ∧ W.cell? ⟨X, 1, none⟩ = some (.string p) ∧ W.cell? ⟨X, 2, none⟩ = some (.string r) ∧ W.cell? ⟨X, 3, none⟩ = some (.bool lm) ∧ W.cell? ⟨X, 4, none⟩ = some (.int .u32 la) ∧ W.cell? ⟨X, 5, none⟩ = some (.int .u32 lb) ∧ W.cell? ⟨X, 6, none⟩ = some (.int .u8 tv) ∧ W.cell? ⟨X, 7, none⟩ = some (.bool tm) ∧ W.cell? ⟨X, 8, none⟩ = some (.int .u32 ta) ∧ W.cell? ⟨X, 9, none⟩ = some (.int .u32 tb) ∧ W.cell? ⟨X, 10, none⟩ = some (.int .u8 gv) ∧ W.cell? ⟨X, 11, none⟩ = some (.bool gm) ∧ W.cell? ⟨Y, 0, none⟩ = some (.string s) ∧ W.cell? ⟨Y, 1, none⟩ = some (.string u) ∧ W.cell? ⟨g5, 0, none⟩ = some (.slice A0 (bytesOf p).length c0) ∧ W.cell? ⟨g5, 1, none⟩ = some (.slice A1 (bytesOf r).length c1) ∧ W.cell? ⟨g6, 0, none⟩ = some (.bool lm) ∧ W.cell? ⟨g6, 1, none⟩ = some (.int .u32 la) ∧ W.cell? ⟨g6, 2, none⟩ = some (.int .u32 lb) ∧ W.cell? ⟨g7, 0, none⟩ = some (.int .u8 tv) ∧ W.cell? ⟨g7, 1, none⟩ = some (.bool tm) ∧ W.cell? ⟨g7, 2, none⟩ = some (.int .u32 ta) ∧ W.cell? ⟨g7, 3, none⟩ = some (.int .u32 tb) ∧ W.cell? ⟨g8, 0, none⟩ = some (.int .u8 gv) ∧ W.cell? ⟨g8, 1, none⟩ = some (.bool gm))) (by kernel_rfl) ?hSaff1 (fun hHeld => ?goaff1)
      case hSaff1 => exact keepS HC.out HB.out.drew
      refine wpAnyH_take (i := 0) (v := ?_) hop4_9_0 (by kernel_rfl) (by kernel_rfl) (by kernel_rfl) (fun _ _ _ h => h) (Or.inl ⟨by rfl, ?hyaff2⟩) (by assumption) ?restaff2
      case hyaff2 => (intro w hSw; (try dsimp only at hSw); go_simp; first | (with_reducible rfl) | (rw [if_neg (by omega)]) | skip)
      simp only [Act.put, List.setIfInBounds_toArray, List.set_cons_zero, List.set_cons_succ]
      refine wpAnyH_take (i := 1) (v := ?_) hop4_9_1 (by kernel_rfl) (by kernel_rfl) (by kernel_rfl) (fun _ _ _ h => h) (Or.inl ⟨by rfl, ?hyaff3⟩) (by assumption) ?restaff3
      case hyaff3 => (intro w hSw; (try dsimp only at hSw); go_simp; first | (with_reducible rfl) | (rw [if_neg (by omega)]) | skip)
      simp only [Act.put, List.setIfInBounds_toArray, List.set_cons_zero, List.set_cons_succ]
      refine wpAnyH_take (i := 2) (v := undef) hop4_9_2 (by kernel_rfl) (by kernel_rfl) (by kernel_rfl) (fun _ _ _ h => h) (Or.inr ⟨by rfl, rfl⟩) (by assumption) ?_
      simp only [Act.put, List.setIfInBounds_toArray, List.set_cons_zero, List.set_cons_succ]
      refine wpAnyH_take (i := 3) (v := undef) hop4_9_3 (by kernel_rfl) (by kernel_rfl) (by kernel_rfl) (fun _ _ _ h => h) (Or.inr ⟨by rfl, rfl⟩) (by assumption) ?_
      simp only [Act.put, List.setIfInBounds_toArray, List.set_cons_zero, List.set_cons_succ]
      refine wpAnyH_take (i := 4) (v := undef) hop4_9_4 (by kernel_rfl) (by kernel_rfl) (by kernel_rfl) (fun _ _ _ h => h) (Or.inr ⟨by rfl, rfl⟩) (by assumption) ?_
      simp only [Act.put, List.setIfInBounds_toArray, List.set_cons_zero, List.set_cons_succ]
      refine wpAnyH_take (i := 5) (v := undef) hop4_9_5 (by kernel_rfl) (by kernel_rfl) (by kernel_rfl) (fun _ _ _ h => h) (Or.inr ⟨by rfl, rfl⟩) (by assumption) ?_
      simp only [Act.put, List.setIfInBounds_toArray, List.set_cons_zero, List.set_cons_succ]
      refine wpAnyH_take (i := 6) (v := undef) hop4_9_6 (by kernel_rfl) (by kernel_rfl) (by kernel_rfl) (fun _ _ _ h => h) (Or.inr ⟨by rfl, rfl⟩) (by assumption) ?_
      simp only [Act.put, List.setIfInBounds_toArray, List.set_cons_zero, List.set_cons_succ]
      refine wpAnyH_take (i := 7) (v := undef) hop4_9_7 (by kernel_rfl) (by kernel_rfl) (by kernel_rfl) (fun _ _ _ h => h) (Or.inr ⟨by rfl, rfl⟩) (by assumption) ?_
      simp only [Act.put, List.setIfInBounds_toArray, List.set_cons_zero, List.set_cons_succ]
      refine wpAnyH_take (i := 8) (v := undef) hop4_9_8 (by kernel_rfl) (by kernel_rfl) (by kernel_rfl) (fun _ _ _ h => h) (Or.inr ⟨by rfl, rfl⟩) (by assumption) ?_
      simp only [Act.put, List.setIfInBounds_toArray, List.set_cons_zero, List.set_cons_succ]
      refine wpAnyH_take (i := 9) (v := undef) hop4_9_9 (by kernel_rfl) (by kernel_rfl) (by kernel_rfl) (fun _ _ _ h => h) (Or.inr ⟨by rfl, rfl⟩) (by assumption) ?_
      simp only [Act.put, List.setIfInBounds_toArray, List.set_cons_zero, List.set_cons_succ]
      refine wpAnyH_take (i := 10) (v := undef) hop4_9_10 (by kernel_rfl) (by kernel_rfl) (by kernel_rfl) (fun _ _ _ h => h) (Or.inr ⟨by rfl, rfl⟩) (by assumption) ?_
      simp only [Act.put, List.setIfInBounds_toArray, List.set_cons_zero, List.set_cons_succ]
      refine wpAnyH_take (i := 11) (v := undef) hop4_9_11 (by kernel_rfl) (by kernel_rfl) (by kernel_rfl) (fun _ _ _ h => h) (Or.inr ⟨by rfl, rfl⟩) (by assumption) ?_
      simp only [Act.put, List.setIfInBounds_toArray, List.set_cons_zero, List.set_cons_succ]
      refine wpAnyH_take (i := 12) (v := undef) hop4_9_12 (by kernel_rfl) (by kernel_rfl) (by kernel_rfl) (fun _ _ _ h => h) (Or.inr ⟨by rfl, rfl⟩) (by assumption) ?_
      simp only [Act.put, List.setIfInBounds_toArray, List.set_cons_zero, List.set_cons_succ]
      refine wpAnyH_take (i := 13) (v := undef) hop4_9_13 (by kernel_rfl) (by kernel_rfl) (by kernel_rfl) (fun _ _ _ h => h) (Or.inr ⟨by rfl, rfl⟩) (by assumption) ?_
      simp only [Act.put, List.setIfInBounds_toArray, List.set_cons_zero, List.set_cons_succ]
      refine wpAnyH_take (i := 14) (v := undef) hop4_9_14 (by kernel_rfl) (by kernel_rfl) (by kernel_rfl) (fun _ _ _ h => h) (Or.inr ⟨by rfl, rfl⟩) (by assumption) ?_
      simp only [Act.put, List.setIfInBounds_toArray, List.set_cons_zero, List.set_cons_succ]
      refine wpAnyH_take (i := 15) (v := undef) hop4_9_15 (by kernel_rfl) (by kernel_rfl) (by kernel_rfl) (fun _ _ _ h => h) (Or.inr ⟨by rfl, rfl⟩) (by assumption) ?_
      simp only [Act.put, List.setIfInBounds_toArray, List.set_cons_zero, List.set_cons_succ]
      refine wpAnyH_take (i := 16) (v := undef) hop4_9_16 (by kernel_rfl) (by kernel_rfl) (by kernel_rfl) (fun _ _ _ h => h) (Or.inr ⟨by rfl, rfl⟩) (by assumption) ?_
      simp only [Act.put, List.setIfInBounds_toArray, List.set_cons_zero, List.set_cons_succ]
      refine wpAnyH_take (i := 17) (v := undef) hop4_9_17 (by kernel_rfl) (by kernel_rfl) (by kernel_rfl) (fun _ _ _ h => h) (Or.inr ⟨by rfl, rfl⟩) (by assumption) ?_
      simp only [Act.put, List.setIfInBounds_toArray, List.set_cons_zero, List.set_cons_succ]
      refine wpAnyH_take (i := 18) (v := undef) hop4_9_18 (by kernel_rfl) (by kernel_rfl) (by kernel_rfl) (fun _ _ _ h => h) (Or.inr ⟨by rfl, rfl⟩) (by assumption) ?_
      simp only [Act.put, List.setIfInBounds_toArray, List.set_cons_zero, List.set_cons_succ]
      refine wpAnyH_take (i := 19) (v := undef) hop4_9_19 (by kernel_rfl) (by kernel_rfl) (by kernel_rfl) (fun _ _ _ h => h) (Or.inr ⟨by rfl, rfl⟩) (by assumption) ?_
      simp only [Act.put, List.setIfInBounds_toArray, List.set_cons_zero, List.set_cons_succ]
      refine wpAnyH_take (i := 20) (v := undef) hop4_9_20 (by kernel_rfl) (by kernel_rfl) (by kernel_rfl) (fun _ _ _ h => h) (Or.inr ⟨by rfl, rfl⟩) (by assumption) ?_
      simp only [Act.put, List.setIfInBounds_toArray, List.set_cons_zero, List.set_cons_succ]
      refine wpAnyH_take (i := 21) (v := undef) hop4_9_21 (by kernel_rfl) (by kernel_rfl) (by kernel_rfl) (fun _ _ _ h => h) (Or.inr ⟨by rfl, rfl⟩) (by assumption) ?_
      simp only [Act.put, List.setIfInBounds_toArray, List.set_cons_zero, List.set_cons_succ]
      refine wpAnyH_take (i := 22) (v := ?_) hop4_9_22 (by kernel_rfl) (by kernel_rfl) (by kernel_rfl) (fun _ _ _ h => h) (Or.inl ⟨by rfl, ?hyaff4⟩) (by assumption) ?restaff4
      case hyaff4 => (intro w hSw; (try dsimp only at hSw); go_simp; first | (with_reducible rfl) | (rw [if_neg (by omega)]) | skip)
      simp only [Act.put, List.setIfInBounds_toArray, List.set_cons_zero, List.set_cons_succ]
      refine wpAnyH_take (i := 23) (v := ?_) hop4_9_23 (by kernel_rfl) (by kernel_rfl) (by kernel_rfl) (fun _ _ _ h => h) (Or.inl ⟨by rfl, ?hyaff5⟩) (by assumption) ?restaff5
      case hyaff5 => (intro w hSw; (try dsimp only at hSw); go_simp; first | (with_reducible rfl) | (rw [if_neg (by omega)]) | skip)
      simp only [Act.put, List.setIfInBounds_toArray, List.set_cons_zero, List.set_cons_succ]
      refine wpAnyH_take (i := 24) (v := ?_) hop4_9_24 (by kernel_rfl) (by kernel_rfl) (by kernel_rfl) (fun _ _ _ h => h) (Or.inl ⟨by rfl, ?hyaff6⟩) (by assumption) ?restaff6
      case hyaff6 => (intro w hSw; (try dsimp only at hSw); go_simp; first | (with_reducible rfl) | (rw [if_neg (by omega)]) | skip)
      simp only [Act.put, List.setIfInBounds_toArray, List.set_cons_zero, List.set_cons_succ]
      refine wpAnyH_take (i := 25) (v := ?_) hop4_9_25 (by kernel_rfl) (by kernel_rfl) (by kernel_rfl) (fun _ _ _ h => h) (Or.inl ⟨by rfl, ?hyaff7⟩) (by assumption) ?restaff7
      case hyaff7 => (intro w hSw; (try dsimp only at hSw); go_simp; first | (with_reducible rfl) | (rw [if_neg (by omega)]) | skip)
      simp only [Act.put, List.setIfInBounds_toArray, List.set_cons_zero, List.set_cons_succ]
      refine wpAnyH_take (i := 26) (v := undef) hop4_9_26 (by kernel_rfl) (by kernel_rfl) (by kernel_rfl) (fun _ _ _ h => h) (Or.inr ⟨by rfl, rfl⟩) (by assumption) ?_
      simp only [Act.put, List.setIfInBounds_toArray, List.set_cons_zero, List.set_cons_succ]
      refine wpAnyH_take (i := 27) (v := undef) hop4_9_27 (by kernel_rfl) (by kernel_rfl) (by kernel_rfl) (fun _ _ _ h => h) (Or.inr ⟨by rfl, rfl⟩) (by assumption) ?_
      simp only [Act.put, List.setIfInBounds_toArray, List.set_cons_zero, List.set_cons_succ]
      refine wpAnyH_take (i := 28) (v := undef) hop4_9_28 (by kernel_rfl) (by kernel_rfl) (by kernel_rfl) (fun _ _ _ h => h) (Or.inr ⟨by rfl, rfl⟩) (by assumption) ?_
      simp only [Act.put, List.setIfInBounds_toArray, List.set_cons_zero, List.set_cons_succ]
      refine wpAnyH_take (i := 29) (v := undef) hop4_9_29 (by kernel_rfl) (by kernel_rfl) (by kernel_rfl) (fun _ _ _ h => h) (Or.inr ⟨by rfl, rfl⟩) (by assumption) ?_
      simp only [Act.put, List.setIfInBounds_toArray, List.set_cons_zero, List.set_cons_succ]
      refine wpAnyH_take (i := 30) (v := undef) hop4_9_30 (by kernel_rfl) (by kernel_rfl) (by kernel_rfl) (fun _ _ _ h => h) (Or.inr ⟨by rfl, rfl⟩) (by assumption) ?_
      simp only [Act.put, List.setIfInBounds_toArray, List.set_cons_zero, List.set_cons_succ]
      refine wpAnyH_take (i := 31) (v := undef) hop4_9_31 (by kernel_rfl) (by kernel_rfl) (by kernel_rfl) (fun _ _ _ h => h) (Or.inr ⟨by rfl, rfl⟩) (by assumption) ?_
      simp only [Act.put, List.setIfInBounds_toArray, List.set_cons_zero, List.set_cons_succ]
      refine wpAnyH_take (i := 32) (v := undef) hop4_9_32 (by kernel_rfl) (by kernel_rfl) (by kernel_rfl) (fun _ _ _ h => h) (Or.inr ⟨by rfl, rfl⟩) (by assumption) ?_
      simp only [Act.put, List.setIfInBounds_toArray, List.set_cons_zero, List.set_cons_succ]
      refine wpAnyH_take (i := 33) (v := ?_) hop4_9_33 (by kernel_rfl) (by kernel_rfl) (by kernel_rfl) (fun _ _ _ h => h) (Or.inl ⟨by rfl, ?hyaff8⟩) (by assumption) ?restaff8
      case hyaff8 => (intro w hSw; (try dsimp only at hSw); go_simp; first | (with_reducible rfl) | (rw [if_neg (by omega)]) | skip)
      simp only [Act.put, List.setIfInBounds_toArray, List.set_cons_zero, List.set_cons_succ]
      refine wpAnyH_take (i := 34) (v := ?_) hop4_9_34 (by kernel_rfl) (by kernel_rfl) (by kernel_rfl) (fun _ _ _ h => h) (Or.inl ⟨by rfl, ?hyaff9⟩) (by assumption) ?restaff9
      case hyaff9 => (intro w hSw; (try dsimp only at hSw); go_simp; first | (with_reducible rfl) | (rw [if_neg (by omega)]) | skip)
      simp only [Act.put, List.setIfInBounds_toArray, List.set_cons_zero, List.set_cons_succ]
      refine wpAnyH_done (by kernel_rfl) ?_ _
      refine NoPanic.normal ?_
      exact HQ.out _ _ _ _ _ _ _ _ _ _ _ _ _ _ _ _ _ _ _ _ _ _ _ _ _ _ _ _ _ _ _ _ _ _ _ hHeld.1
end Go.Proofs.YtiohiiekaofkbaaDoor
